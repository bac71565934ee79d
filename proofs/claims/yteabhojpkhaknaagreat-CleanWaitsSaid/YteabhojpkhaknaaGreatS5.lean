/- Regions, in the order of the text or in any that the machine may take. -/
import Derived.Test.YteabhojpkhaknaaGreatS4
import Derived.RangeFuncLeaves
import Derived.RangeFuncRecord
import Derived.OrdersIn
import Derived.Conc.LoneSelect
namespace Nt
open Go

/-- A loop within a round of loop l₀: one block, no mark. -/
theorem run_enterLoop_in {P : Program} {w : World} {l₀ : Nat} {r₀ : Loop} (h : w.heap[l₀]? = some (.loop r₀)) (fn : FuncId) (tmps : Array Value) (ps : Array Tmp) (assign body : Code) :
    (Instr.enterLoop fn tmps ps assign body (some l₀)).run P w = .ok (w.heap.size, []) (w.alloc (.loop { state := .ready, pending := none, fn, tmps, params := ps, assign, body, defers := r₀.defers })) := by
  unfold Instr.enterLoop
  simp only [Sem.run_bind, run_getLoop h, run_newObj_alloc, Result.andThen, Sem.run_pure]

/-- The widest fence, of a round or of none. -/
abbrev FW (ro : Option Nat) : Fence := { fn := fun _ => True, depth := none, alive := false, round := ro }

theorem fencedW (P : Program) (ro : Option Nat) (m : Machine) : m.fenced P (FW ro) := by
  intro g _
  refine ⟨fun h => ?_, Or.inl trivial, fun _ _ => trivial, fun _ h => ?_⟩
  · cases h
  · cases h
theorem roomW (ro : Option Nat) (n : Nat) : (FW ro).room n := fun _ h => by cases h
theorem oneW {P : Program} {ro : Option Nat} {m m' : Machine} (h : step P m = .next m') : StepsIn (Machine.fenced P (FW ro)) P m m' := .one (fencedW P ro m) h

section
variable {P : Program} {ro : Option Nat} {ops : Array Oper} {i : Nat} {a : Act} {w : World}

/-- The operation numbered i goes through: what it leaves is what K takes. -/
def OpK (P : Program) (ro : Option Nat) (ops : Array Oper) (i : Nat) (a : Act) (w : World) (K : Value → World → Prop) : Prop :=
  ∀ (b : Frame) (k : List Item) (cs : List Frame) (rest : List Nat), b.roundOf = ro → ∃ v w', K v w' ∧
    StepsIn (Machine.fenced P (FW ro)) P (lone (b.atR a (.inRegion ops (i :: rest) :: k)) cs w) (lone (b.atR (a.put ((ops[i]?).bind (·.dst)) v) (.inRegion ops rest :: k)) cs w')

theorem OpK.mono {K K' : Value → World → Prop} (h : OpK P ro ops i a w K) (hk : ∀ v w', K v w' → K' v w') : OpK P ro ops i a w K' :=
  fun b k cs rest hb => let ⟨v, w', h1, h2⟩ := h b k cs rest hb; ⟨v, w', hk _ _ h1, h2⟩

theorem opk_skip {K : Value → World → Prop} (h : ((ops[i]?).map (Region.wanted · (yielded ops a.tmps))).getD false = false) (hk : K undef w) : OpK P ro ops i a w K :=
  fun _ _ _ _ _ => ⟨undef, w, hk, oneW (stepR_op_skip h)⟩

/-- What the operation comes to is a value, or nothing. -/
theorem opk_run {o : Oper} (ho : ops[i]? = some o) (hw : Region.wanted o (yielded ops a.tmps) = true) (hd : ∀ c, o.op ≠ .defer c) {w' : World} {K : Value → World → Prop} {v : Value}
    (h : (execOp a.eval o).run P w = .ok (.value v) w' ∨ (execOp a.eval o).run P w = .ok .skip w' ∧ v = undef) (hk : K v w') : OpK P ro ops i a w K := by
  intro b k cs rest hb
  refine ⟨v, w', hk, oneW (step_lone_go ?_)⟩
  have hg := stepGR_op (P := P) (b := b) (k := k) (cs := cs) (w := w) (rest := rest) ho hw
  rw [Oper.semAt_eq _ _ _ hd] at hg
  rw [hg, ← Frame.finish_atR]
  rcases h with h | ⟨h, rfl⟩ <;> simp [stepG.apply, h]

theorem opk_enter {o : Oper} (ho : ops[i]? = some o) (hw : Region.wanted o (yielded ops a.tmps) = true) (hd : ∀ c, o.op ≠ .defer c) {f : FuncId} {args : Array Value} {w' : World} {K : Value → World → Prop}
    (h : (execOp a.eval o).run P w = .ok (.enter f args) w') (hc : CallsIn (FW none) 0 P f args w' fun e w'' => ∃ v, e = .returned v ∧ K v w'') : OpK P ro ops i a w K := by
  intro b k cs rest hb
  have hg := stepGR_op (P := P) (b := b) (k := k) (cs := cs) (w := w) (rest := rest) ho hw
  rw [Oper.semAt_eq _ _ _ hd] at hg
  obtain ⟨e, w'', fr, ⟨v, he, hK⟩, hsteps, hfn, hleave⟩ := hc.2 (b.atR a (.inRegion ops (i :: rest) :: k) :: cs) (roomW _ _)
  subst he
  have henter : step P (lone (b.atR a (.inRegion ops (i :: rest) :: k)) cs w) =
      .next (lone (Frame.enter P f args .normal) (b.atR a (.inRegion ops (i :: rest) :: k) :: cs) w') :=
    step_lone_go (by rw [hg]; simp [stepG.apply, h, Frame.atR])
  refine ⟨v, w'', hK, .trans (oneW henter) (StepsIn.trans hsteps (oneW ?_))⟩
  rw [← Frame.finish_atR]; exact step_leave_returned hleave

theorem opk_round {o : Oper} (ho : ops[i]? = some o) (hw : Region.wanted o (yielded ops a.tmps) = true) (hd : ∀ c, o.op ≠ .defer c) {l : Nat} {f : FuncId} {tmps : Array Value} {assign body : Code} {w' : World} {K : Value → World → Prop}
    (h : (execOp a.eval o).run P w = .ok (.round l f tmps assign body) w') (hc : RoundIn (FW none) 0 P l f tmps assign body w' fun e w'' => ∃ v, e = .returned v ∧ K v w'') : OpK P ro ops i a w K := by
  intro b k cs rest hb
  have hg := stepGR_op (P := P) (b := b) (k := k) (cs := cs) (w := w) (rest := rest) ho hw
  rw [Oper.semAt_eq _ _ _ hd] at hg
  obtain ⟨e, w'', ⟨v, he, hK⟩, hsteps⟩ := hc.2 (b.atR a (.inRegion ops (i :: rest) :: k)) cs (roomW _ _)
  subst he
  have henter : step P (lone (b.atR a (.inRegion ops (i :: rest) :: k)) cs w) =
      .next (lone (Frame.round l f tmps assign body .normal) (b.atR a (.inRegion ops (i :: rest) :: k) :: cs) w') :=
    step_lone_go (by rw [hg]; simp [stepG.apply, h, Frame.atR])
  refine ⟨v, w'', hK, .trans (oneW henter) ?_⟩
  rw [← Frame.finish_atR]; exact hsteps

/-! ### A region -/
def GoesR (P : Program) (ro : Option Nat) (ops : Array Oper) (Q : Exit → Act → World → Prop) (l : List Nat) (a : Act) (w : World) : Prop :=
  ∀ (b : Frame) (k : List Item) (cs : List Frame), b.roundOf = ro → ∃ e a' w', Q e a' w' ∧
    ArrivesIn (Machine.fenced P (FW ro)) P (lone (b.atR a (.inRegion ops l :: k)) cs w) b k cs e a' w'

variable {Q : Exit → Act → World → Prop}
theorem goesR_nil (h : Q .normal a w) : GoesR P ro ops Q [] a w := fun _ _ _ _ => ⟨.normal, a, w, h, oneW stepR_region_end⟩
theorem goesR_cons {rest : List Nat} (h : OpK P ro ops i a w fun v w' => GoesR P ro ops Q rest (a.put ((ops[i]?).bind (·.dst)) v) w') : GoesR P ro ops Q (i :: rest) a w := fun b k cs hb => by
  obtain ⟨v, w', hk, hs⟩ := h b k cs rest hb
  obtain ⟨e, a', w'', hq, harr⟩ := hk b k cs hb
  exact ⟨e, a', w'', hq, .of_steps hs harr⟩
theorem wp_goesR {id : Nat} (h : GoesR P ro ops Q (List.range ops.size) a w) : (Code.region id ops false).wpIn (FW ro) 0 P Q a w :=
  fun b k cs hro _ _ => let ⟨e, a', w', q, r⟩ := h b k cs hro; ⟨e, a', w', q, .of_steps (oneW stepR_region) r⟩
theorem wp_goesR_draw {id : Nat} (hm : P.follows .mixedOrders = true) (h : ∀ t, GoesR P ro ops Q (Region.linearise .any ops t) a { w with drawn := w.drawn + 1 }) : (Code.region id ops true).wpIn (FW ro) 0 P Q a w :=
  fun b k cs hro _ _ => by
    obtain ⟨e, a', w', q, r⟩ := h (w.tape w.drawn (.order b.fn id)) b k cs hro
    refine ⟨e, a', w', q, .of_steps (oneW stepR_region_draw) ?_⟩
    simpa only [Region.schedule, hm, Bool.true_or, if_true] using r

/-- Whatever order a region is taken in: I holds of what has been done, and stays. -/
theorem goesR_linear {md : Region.Mode} (I : Array Bool → Act → World → Prop)
    (hstep : ∀ listed a w, I listed a w → ∀ i ∈ Region.ready md ops listed, OpK P ro ops i a w fun v w' => I (listed.setIfInBounds i true) (a.put ((ops[i]?).bind (·.dst)) v) w')
    (hend : ∀ listed a w, I listed a w → Region.ready md ops listed = [] → Q .normal a w) :
    ∀ (fuel t : Nat) (listed : Array Bool) (a : Act) (w : World), I listed a w → listed.toList.count false ≤ fuel → GoesR P ro ops Q (Region.linearise.go md ops fuel t listed []) a w := by
  have nil_of : ∀ {listed : Array Bool}, listed.toList.count false = 0 → Region.ready md ops listed = [] := by
    intro listed h0
    rw [Region.ready, List.filter_eq_nil_iff]
    intro i _ hc
    simp only [Bool.and_eq_true, Bool.not_eq_true'] at hc
    have h1 := hc.1
    rw [Array.getD_eq_getD_getElem?] at h1
    cases hq : listed[i]? with
    | none => rw [hq] at h1; cases h1
    | some b =>
      rw [hq] at h1
      simp only [Option.getD_some] at h1
      subst h1
      have hm : false ∈ listed.toList := by
        have := Array.mem_of_getElem? hq
        simpa using this
      have := List.count_pos_iff.2 hm
      omega
  intro fuel
  induction fuel with
  | zero =>
    intro t listed a w hI hc
    have h0 := nil_of (listed := listed) (by omega)
    simp only [Region.linearise.go, List.reverse_nil]
    exact goesR_nil (hend _ _ _ hI h0)
  | succ fuel ih =>
    intro t listed a w hI hc
    simp only [Region.linearise.go]
    change GoesR P ro ops Q (match (Region.ready md ops listed)[t % (Region.ready md ops listed).length]? with
      | some i => Region.linearise.go md ops fuel (t / (Region.ready md ops listed).length) (listed.setIfInBounds i true) [i]
      | none => [].reverse) a w
    cases hi : (Region.ready md ops listed)[t % (Region.ready md ops listed).length]? with
    | none =>
      have hnil : Region.ready md ops listed = [] := by
        cases hr : Region.ready md ops listed with
        | nil => rfl
        | cons x xs =>
          rw [hr] at hi
          have hlt : t % (x :: xs).length < (x :: xs).length := Nat.mod_lt _ (by simp)
          simp at hi
          simp at hlt
          omega
      simpa using goesR_nil (hend _ _ _ hI hnil)
    | some i =>
      simp only []
      have hmem := List.mem_of_getElem? hi
      rw [linearise_go_acc, List.reverse_singleton, List.singleton_append]
      refine goesR_cons ((hstep _ _ _ hI i hmem).mono fun v w' h' => ih _ _ _ _ h' ?_)
      have h1 : listed.getD i true = false := by
        have := (List.mem_filter.1 hmem).2
        simp only [Bool.and_eq_true, Bool.not_eq_true'] at this
        exact this.1
      rw [Array.getD_eq_getD_getElem?] at h1
      have hlt : i < listed.size := by
        rcases Nat.lt_or_ge i listed.size with h | h
        · exact h
        · rw [Array.getElem?_eq_none h] at h1; cases h1
      have hv : listed.toList[i]'(by simpa using hlt) = false := by
        rw [Array.getElem?_eq_getElem hlt] at h1
        simpa using h1
      have hpos : 0 < listed.toList.count false := List.count_pos_iff.2 (by rw [← hv]; exact List.getElem_mem _)
      rw [Array.toList_setIfInBounds, List.count_set (by simpa using hlt), hv]
      simp only [beq_self_eq_true, if_true, beq_iff_eq, Bool.true_eq_false, if_false, Bool.false_eq_true]
      omega
end
end Nt

namespace Nt
open Go

section
variable {T : TyT} {P : Program} {ro : Option Nat} {ops : Array Oper} {i : Nat} {a : Act} {w : World} {ρ : Ren} {o : Oper}

theorem comm_step (ho : ops[i]? = some o) (hw : Region.wanted o (yielded ops a.tmps) = true) (hd : ∀ c, o.op ≠ .defer c) {cases : Array CommCase} {blocking : Bool} {shape : CommShape} {w' : World}
    (h : (execOp a.eval o).run P w = .ok (.comm cases blocking shape) w') (b : Frame) (k : List Item) (cs : List Frame) (rest : List Nat) :
    ∃ es, stepG P true (Conc.G (b.atR a (.inRegion ops (i :: rest) :: k)) cs) w = .comm (Conc.G (b.atR a (.inRegion ops (i :: rest) :: k)) cs) cases blocking shape w' es := by
  have hg := stepGR_op (P := P) (b := b) (k := k) (cs := cs) (w := w) (rest := rest) ho hw
  rw [Oper.semAt_eq _ _ _ hd] at hg
  have : ∃ es, stepG.apply P true (b.atR a (.inRegion ops (i :: rest) :: k)) cs none (execOp a.eval o) w = .comm (Conc.G (b.atR a (.inRegion ops (i :: rest) :: k)) cs) cases blocking shape w' es := by
    simp only [stepG.apply, Sem.runT_eq, h, if_true, GStep.after]
    exact ⟨_, rfl⟩
  obtain ⟨es, he⟩ := this
  exact ⟨es, hg.trans he⟩

/-- What the machine goes on with, once the select has been answered. -/
theorem opk_comm (ho : ops[i]? = some o) {K : Value → World → Prop} {v : Value} {w' : World} (hk : K v w')
    (h : ∀ (b : Frame) (k : List Item) (cs : List Frame) (rest : List Nat), step P (Conc.solo (Conc.G (b.atR a (.inRegion ops (i :: rest) :: k)) cs) w) = .next (Conc.solo (Conc.G ((b.atR a (.inRegion ops (i :: rest) :: k)).finish v) cs) w')) : OpK P ro ops i a w K := by
  intro b k cs rest hb
  refine ⟨v, w', hk, oneW ?_⟩
  rw [← Frame.finish_atR]
  exact h b k cs rest

theorem select_run_one (hT : TabOK T P) {ch : Operand} {sx : Option Operand} {e : TypeId} {te : TyE} (he : T.get e = some te) (env' : Env) (dst : Option Tmp) (ty : TypeId) (pos : String) (after : Array Edge) (guard : Option (Nat × Bool)) :
    (execOp env' ⟨dst, .select #[⟨ch, sx, e⟩] false, ty, pos, after, guard⟩).run P w = .ok (.comm #[{ chan := env' ch, send := sx.map env', zero := te.zero }] false .select) w := by
  have hz := run_zero hT he w
  simp [execOp, Sem.run_bind, hz, Result.andThen]

theorem chan_inv {ρ : Ren} {h : AHeap} {heap : Array Obj} (hr : HR ρ h heap) {b cap : Nat} {buf : List Value} {v' : Value} (hv : VR ρ (.chan (some b)) v') (hb : h.get b = some (.chan cap buf)) :
    ∃ L buf' s r, ρ b = some L ∧ v' = .chan (some L.r) ∧ heap[L.r]? = some (.chan cap buf' false s r false) ∧ VRL ρ buf buf'.toList := by
  cases hv with
  | chan hL =>
    obtain ⟨L', co, h1, h2, h3⟩ := hr.obj b _ hb
    rw [hL] at h1; cases h1
    cases co with
    | chan cap' buf' closed s r tm =>
      obtain ⟨rfl, e2, rfl, rfl⟩ := h3
      exact ⟨_, buf', s, r, hL, rfl, h2, e2⟩
    | _ => exact h3.elim

theorem select_opk (hT : TabOK T P) {cases : Array SelectCase} {blocking : Bool} (hop : o.op = .select cases blocking) (ho : ops[i]? = some o) (hw : Region.wanted o (yielded ops a.tmps) = true) {env : Env} (henv : EnvR ρ env a.eval o.op.operands)
    {h h' : AHeap} (hh : HR ρ h w.heap) {v : Value} (hs : hSelect cases blocking T env h = some (v, h')) : OpK P ro ops i a w fun v' w' => ∃ ρ', VR ρ' v v' ∧ Ev ρ h w ρ' h' w' := by
  have hd : ∀ c, o.op ≠ .defer c := fun c e => by rw [hop] at e; cases e
  obtain ⟨dst, op, ty, pos, after, guard⟩ := o
  simp only at hop
  subst hop
  unfold hSelect at hs
  split at hs
  · rename_i ch x e hc
    have ec : cases = #[⟨ch, some x, e⟩] := Array.ext' (by simpa using hc)
    subst ec
    split at hs
    · rename_i b te hv ht
      split at hs
      · rename_i cap buf hb
        have hcv := henv ch (by simp [Op.operands])
        have hxv := henv x (by simp [Op.operands])
        rw [hv] at hcv
        obtain ⟨L, buf', s, r, hL, e1, e2, e3⟩ := chan_inv hh hcv hb
        have hrun := select_run_one (w := w) hT (ch := ch) (sx := some x) ht a.eval dst ty pos after guard
        rw [e1] at hrun
        have hsz : buf'.size = buf.length := by have := e3.1; simp at this; exact this.symm
        rw [bcond_eq] at hs
        cases hq : Nat.ble (len buf + 1) cap with
        | true =>
          rw [hq, cond_true] at hs
          cases hs
          have hlt : buf'.size < cap := by have := ble_true hq; rw [len_eq] at this; omega
          refine opk_comm ho (v := .tuple #[goInt 0, .bool false]) (w' := w.setChan L.r cap (buf'.push (a.eval x)) false (s + 1) r false) ⟨ρ, ?_, ?_⟩ fun b' k cs rest => ?_
          · exact .tuple rfl fun j y z hy hz => by
              rw [show (#[goInt 0, Value.bool false] : Array Value) = #[Value.int .i64 0, .bool false] from rfl] at hz
              rw [hy] at hz; cases hz
              match j with
              | 0 => simp at hy; subst hy; exact .int _ _
              | 1 => simp at hy; subst hy; exact .bool _
              | j + 2 => simp at hy
          · exact Ev.put hh hb hL (.chan cap (app buf [env x])) _ ⟨rfl, by rw [app_eq]; simpa using VRL.append e3 (VRL.cons hxv (VRL.nil ρ)), rfl, rfl⟩
          · obtain ⟨es, hst⟩ := comm_step (P := P) ho hw hd hrun b' k cs rest
            exact Conc.step_lone_select_send_room hst e2 hlt
        | false =>
          rw [hq, cond_false] at hs
          cases hs
          have hge : cap ≤ buf'.size := by have := ble_false hq; rw [len_eq] at this; omega
          refine opk_comm ho (v := .tuple #[goInt (-1), .bool false]) (w' := w) ⟨ρ, ?_, Ev.refl hh⟩ fun b' k cs rest => ?_
          · exact .tuple rfl fun j y z hy hz => by
              rw [show (#[goInt (-1), Value.bool false] : Array Value) = #[Value.int .i64 (-1), .bool false] from rfl] at hz
              rw [hy] at hz; cases hz
              match j with
              | 0 => simp at hy; subst hy; exact .int _ _
              | 1 => simp at hy; subst hy; exact .bool _
              | j + 2 => simp at hy
          · obtain ⟨es, hst⟩ := comm_step (P := P) ho hw hd hrun b' k cs rest
            exact Conc.step_lone_select_send_full hst e2 hge
      · cases hs
    · cases hs
  · rename_i ch e hc
    have ec : cases = #[⟨ch, none, e⟩] := Array.ext' (by simpa using hc)
    subst ec
    split at hs
    · rename_i b te hv ht
      have hcv := henv ch (by simp [Op.operands])
      rw [hv] at hcv
      have hrun := select_run_one (w := w) hT (ch := ch) (sx := none) ht a.eval dst ty pos after guard
      split at hs
      · rename_i cap v₀ buf hb
        cases hs
        obtain ⟨L, buf', s, r, hL, e1, e2, e3⟩ := chan_inv hh hcv hb
        rw [e1] at hrun
        have hsz : buf'.size = buf.length + 1 := by have := e3.1; simp at this; omega
        have h0 : VR ρ v₀ (buf'.getD 0 undef) := by
          obtain ⟨y, h1, h2⟩ := e3.get (i := 0) rfl
          have : buf'.getD 0 undef = y := by rw [Array.getD_eq_getD_getElem?]; rw [Array.getElem?_toList] at h1; rw [h1]; rfl
          rw [this]; exact h2
        refine opk_comm ho (v := .tuple #[goInt 0, .bool true, buf'.getD 0 undef]) (w' := w.setChan L.r cap (buf'.extract 1 buf'.size) false s (r + 1) false) ⟨ρ, ?_, ?_⟩ fun b' k cs rest => ?_
        · exact .tuple rfl fun j y z hy hz => by
            match j with
            | 0 => simp at hy hz; subst hy; subst hz; exact .int _ _
            | 1 => simp at hy hz; subst hy; subst hz; exact .bool _
            | 2 => simp at hy hz; subst hy; subst hz; simpa using h0
            | j + 3 => simp at hy
        · refine Ev.put hh hb hL (.chan cap buf) _ ⟨rfl, ?_, rfl, rfl⟩
          obtain ⟨y, bs, hbs, _, h2⟩ := e3.uncons
          have : (buf'.extract 1 buf'.size).toList = bs := by
            have hl : bs.length = buf.length := h2.1.symm
            rw [Array.toList_extract, hbs]; simp [hsz, List.extract, hl]
            rw [← hl, List.take_length]
          rw [this]; exact h2
        · obtain ⟨es, hst⟩ := comm_step (P := P) ho hw hd hrun b' k cs rest
          exact Conc.step_lone_select_recv_buf hst e2 (by omega)
      · rename_i cap hb
        cases hs
        obtain ⟨L, buf', s, r, hL, e1, e2, e3⟩ := chan_inv hh hcv hb
        rw [e1] at hrun
        have hb0 : buf' = #[] := Array.ext' (by simpa using e3.unnil)
        subst hb0
        refine opk_comm ho (v := .tuple #[goInt (-1), .bool false, te.zero]) (w' := w) ⟨ρ, ?_, Ev.refl hh⟩ fun b' k cs rest => ?_
        · exact .tuple rfl fun j y z hy hz => by
            match j with
            | 0 => simp at hy hz; subst hy; subst hz; exact .int _ _
            | 1 => simp at hy hz; subst hy; subst hz; exact .bool _
            | 2 => simp at hy hz; subst hy; subst hz; exact VR.of_gndC (hT.zero _ _ ht).1
            | j + 3 => simp at hy
        · obtain ⟨es, hst⟩ := comm_step (P := P) ho hw hd hrun b' k cs rest
          exact Conc.step_lone_select_default hst e2
      · cases hs
    · cases hs
  · cases hs
end
end Nt

namespace Nt
open Go

/-! ### The numbers of blocks only grow -/
theorem stepOp_mono {d : OpD} {T : TyT} {r : Rec} {env : Env} {h h' : AHeap} {v : Value} (hs : stepOp d T r env h = some (v, h')) : h.next ≤ h'.next := by
  unfold stepOp stepK at hs
  cases d with
  | pure f =>
    cases e : f T env with
    | none => simp [e] at hs
    | some v => simp [e] at hs; rw [hs.2]; exact Nat.le_refl _
  | read f =>
    cases e : f T env h with
    | none => simp [e] at hs
    | some v => simp [e] at hs; rw [hs.2]; exact Nat.le_refl _
  | alloc f =>
    cases e : f T env with
    | none => simp [e] at hs
    | some p => simp [e] at hs; rw [← hs.2]; exact Nat.le_succ _
  | heavy f =>
    cases e : f T env h with
    | none => simp [e] at hs
    | some p =>
      cases e2 : Nat.ble h.next p.2.next with
      | false => simp [e, e2] at hs
      | true => simp [e, e2] at hs; rw [← hs.2]; exact ble_true e2
  | call f args =>
    cases e : dApply r (env f) (mp env args.toList) h with
    | none => simp [e] at hs
    | some p =>
      cases e2 : Nat.ble h.next p.2.next with
      | false => simp [e, e2] at hs
      | true => simp [e, e2] at hs; rw [← hs.2]; exact ble_true e2
  | bad => cases hs

/-! ### What calls come to -/
/-- The value and the heap of the reading, met by a value and a world. -/
def Came (ρ : Ren) (h : AHeap) (w : World) (v : Value) (h' : AHeap) (v' : Value) (w' : World) : Prop := ∃ ρ', VR ρ' v v' ∧ Ev ρ h w ρ' h' w'

def Enters (P : Program) (f : FuncId) (args : Array Value) (w : World) (K : Value → World → Prop) : Prop :=
  (callFunc f args).run P w = .ok (.enter f args) w ∧ CallsIn (FW none) 0 P f args w fun e w' => ∃ v, e = .returned v ∧ K v w'
def CallTo (P : Program) (f : FuncId) (args : Array Value) (w : World) (K : Value → World → Prop) : Prop :=
  (∃ v w', (callFunc f args).run P w = .ok (.value v) w' ∧ K v w') ∨ Enters P f args w K

/-- What is asked of the calls that the reading makes. -/
structure RecOk (P : Program) (Gs : List Nat) (r : Rec) : Prop where
  call : ∀ f args h v h', r.call f args h = some (v, h') → ∀ (ρ : Ren) (args' : Array Value) (w : World), VRL ρ args args'.toList → HR ρ h w.heap → Free ρ h.next h'.next → GOk Gs ρ →
    CallTo P f args' w (Came ρ h w v h')
  goes : ∀ f args h v h', r.goes f = true → r.call f args h = some (v, h') → ∀ (ρ : Ren) (args' : Array Value) (w : World), VRL ρ args args'.toList → HR ρ h w.heap → Free ρ h.next h'.next → GOk Gs ρ →
    Enters P f args' w (Came ρ h w v h')
  yield : ∀ l args h v h', r.yield l args h = some (v, h') → ∀ (ρ : Ren) (L : Loc) (args' : Array Value) (w : World), ρ l = some L → VRL ρ args args'.toList → HR ρ h w.heap → Free ρ h.next h'.next → GOk Gs ρ →
    ∃ lp, w.heap[L.r]? = some (.loop lp) ∧ args'.size = lp.params.size ∧
      RoundIn (FW none) 0 P L.r lp.fn ((lp.params.zip args').foldl (fun tmps (t, a) => tmps.setIfInBounds t a) lp.tmps) lp.assign lp.body w fun e w' => ∃ u, e = .returned u ∧ Came ρ h w v h' u w'

theorem opD_call {op : Op} {T : TyT} {f : Operand} {args : Array Operand} (h : opD op T = .call f args) : ∃ tys, op = .call ⟨.value f, args, tys⟩ := by
  cases op with
  | call c =>
    obtain ⟨callee, as, tys⟩ := c
    cases callee with
    | value g => simp only [opD, opCall] at h; cases h; exact ⟨_, rfl⟩
    | invoke r n => simp only [opD, opCall] at h; cases h
    | builtin b =>
      simp only [opD, opCall] at h
      cases b <;> simp only [opBuiltin] at h <;> first
        | cases h
        | (split at h <;> cases h)
  | convert s d x =>
    simp only [opD, opConv] at h
    repeat' split at h
    all_goals cases h
  | _ => cases h

theorem opD_notDefer {op : Op} {T : TyT} (h : opD op T ≠ .bad) (c : Call) : op ≠ .defer c := by
  intro e; subst e; exact h rfl

theorem vrl_ops {ρ : Ren} {env env' : Env} {args : Array Operand} (h : ∀ x ∈ args, VR ρ (env x) (env' x)) : VRL ρ (mp env args.toList) (args.map env').toList := by
  rw [mp_eq, Array.toList_map]
  exact vrl_map fun x hx => h x (by simpa using hx)

theorem VR.func_inv {ρ : Ren} {fn : Fn} {as cs : Array Value} {v' : Value} (h : VR ρ (.func fn as cs) v') :
    (∃ f bs ds, fn = .func f ∧ v' = .func (.func f) bs ds ∧ VRA ρ as bs ∧ VRA ρ cs ds) ∨ (∃ b L, fn = .yield b ∧ ρ b = some L ∧ v' = .func (.yield L.r) #[] #[] ∧ as = #[] ∧ cs = #[]) := by
  cases h with
  | func f h1 h2 h3 h4 => exact .inl ⟨f, _, _, rfl, rfl, ⟨h1, h2⟩, ⟨h3, h4⟩⟩
  | yield h => exact .inr ⟨_, _, rfl, h, rfl, rfl, rfl⟩

section
variable {T : TyT} {P : Program} {Gs : List Nat} {r : Rec} {ro : Option Nat} {ops : Array Oper} {i : Nat} {a : Act} {w : World} {ρ : Ren} {o : Oper}

theorem call_op_ok (hr : RecOk P Gs r) (ho : ops[i]? = some o) (hw : Region.wanted o (yielded ops a.tmps) = true) {env : Env} (henv : EnvR ρ env a.eval o.op.operands) {h h' : AHeap} (hh : HR ρ h w.heap) (hg : GOk Gs ρ)
    {f : Operand} {args : Array Operand} (hd : opD o.op T = .call f args) {v : Value} (hs : dApply r (env f) (mp env args.toList) h = some (v, h')) (hf : Free ρ h.next h'.next) : OpK P ro ops i a w (Came ρ h w v h') := by
  obtain ⟨tys, hop⟩ := opD_call hd
  have hnd : ∀ c, o.op ≠ .defer c := fun c e => by rw [hop] at e; cases e
  rw [hop] at henv
  have hfv : VR ρ (env f) (a.eval f) := henv f (by simp [Op.operands, Call.operands])
  have hav : VRL ρ (mp env args.toList) (args.map a.eval).toList := vrl_ops fun x hx => henv x (by simp [Op.operands, Call.operands, hx])
  unfold dApply at hs
  split at hs
  · rename_i fn first cap hfe
    rw [hfe] at hfv
    rcases hfv.func_inv with ⟨g, bs, ds, rfl, hv', h1, h2⟩ | ⟨b, L, rfl, hL, hv', rfl, rfl⟩
    · simp only at hs
      have hall : VRL ρ (app first.toList (app (mp env args.toList) cap.toList)) (bs ++ (args.map a.eval) ++ ds).toList := by
        rw [app_eq, app_eq, Array.toList_append, Array.toList_append, List.append_assoc]
        exact VRL.append (VRA.iff_list.1 h1) (VRL.append hav (VRA.iff_list.1 h2))
      have hrun : (execOp a.eval o).run P w = (callFunc g (bs ++ (args.map a.eval) ++ ds)).run P w := by
        obtain ⟨dst, op, ty, pos, after, guard⟩ := o
        simp only at hop
        subst hop
        simp [execOp, resolve, hv', Deferred.ofValue, invoke]
      rcases hr.call g _ h v h' hs ρ _ w hall hh hf hg with ⟨u, w', hc, hK⟩ | ⟨hc, hK⟩
      · exact opk_run ho hw hnd (.inl (hrun.trans hc)) hK
      · exact opk_enter ho hw hnd (hrun.trans hc) hK
    · simp only at hs
      obtain ⟨lp, h1, h2, h3⟩ := hr.yield b _ h v h' hs ρ L (args.map a.eval) w hL hav hh hf hg
      have hrun : (execOp a.eval o).run P w = (Instr.yield L.r (args.map a.eval)).run P w := by
        obtain ⟨dst, op, ty, pos, after, guard⟩ := o
        simp only at hop
        subst hop
        simp [execOp, resolve, hv', Deferred.ofValue, invoke]
      exact opk_round ho hw hnd (hrun.trans (run_yield h1 h2)) h3
  · cases hs

/-- One operation. -/
theorem op_ok (hT : TabOK T P) (hr : RecOk P Gs r) (ho : ops[i]? = some o) (hw : Region.wanted o (yielded ops a.tmps) = true) {env : Env} (henv : EnvR ρ env a.eval o.op.operands)
    {h h' : AHeap} (hh : HR ρ h w.heap) (hg : GOk Gs ρ) {v : Value} (hs : stepOp (opD o.op T) T r env h = some (v, h')) (hf : Free ρ h.next h'.next) : OpK P ro ops i a w (Came ρ h w v h') := by
  have hnd : ∀ c, o.op ≠ .defer c := opD_notDefer (T := T) fun e => by rw [e] at hs; cases hs
  unfold stepOp stepK at hs
  cases hd : opD o.op T with
  | pure f =>
    rw [hd] at hs
    cases e : f T env with
    | none => simp [e] at hs
    | some u =>
      simp [e] at hs
      obtain ⟨rfl, rfl⟩ := hs
      obtain ⟨v', h1, h2⟩ := pure_ok hT henv hd e w
      exact opk_run ho hw hnd (.inl h1) ⟨ρ, h2, Ev.refl hh⟩
  | read f =>
    rw [hd] at hs
    cases e : f T env h with
    | none => simp [e] at hs
    | some u =>
      simp [e] at hs
      obtain ⟨rfl, rfl⟩ := hs
      obtain ⟨v', h1, h2⟩ := read_ok hT henv hd hh e
      exact opk_run ho hw hnd (.inl h1) ⟨ρ, h2, Ev.refl hh⟩
  | alloc f =>
    rw [hd] at hs
    cases e : f T env with
    | none => simp [e] at hs
    | some p =>
      simp [e] at hs
      obtain ⟨rfl, rfl⟩ := hs
      obtain ⟨co, v', h1, h2, h3⟩ := alloc_ok hT henv hd (obj := p.1) (mk := p.2) e w
      have hfree : ρ h.next = none := hf h.next (Nat.le_refl _) (Nat.lt_succ_self _)
      exact opk_run ho hw hnd (.inl h1) ⟨_, h3 _ _ (upd_same _ _ _), Ev.alloc hh hfree p.1 co 0 (h2.mono (upd_sub _ hfree))⟩
  | heavy f =>
    rw [hd] at hs
    cases e : f T env h with
    | none => simp [e] at hs
    | some p =>
      cases e2 : Nat.ble h.next p.2.next with
      | false => simp [e, e2] at hs
      | true =>
        simp [e, e2] at hs
        obtain ⟨u, k⟩ := p
        simp only at hs
        obtain ⟨rfl, rfl⟩ := hs
        by_cases hsel : ∃ c b, o.op = .select c b
        · obtain ⟨c, b, hop⟩ := hsel
          have hf' : f = hSelect c b := by rw [hop] at hd; cases hd; rfl
          subst hf'
          exact select_opk hT hop ho hw henv hh e
        have hsel : ∀ c b, o.op ≠ .select c b := fun c b e => hsel ⟨c, b, e⟩
        obtain ⟨ρ', w', hev, h1⟩ := heavy_ok hT henv hd hsel hh e hf
        rcases h1 with ⟨h1, rfl⟩ | ⟨v', h1, h2⟩
        · exact opk_run ho hw hnd (.inr ⟨h1, rfl⟩) ⟨ρ', VR.undef _, hev⟩
        · exact opk_run ho hw hnd (.inl h1) ⟨ρ', h2, hev⟩
  | call f args =>
    rw [hd] at hs
    cases e : dApply r (env f) (mp env args.toList) h with
    | none => simp [e] at hs
    | some p =>
      cases e2 : Nat.ble h.next p.2.next with
      | false => simp [e, e2] at hs
      | true =>
        simp [e, e2] at hs
        obtain ⟨u, k⟩ := p
        simp only at hs
        obtain ⟨rfl, rfl⟩ := hs
        exact call_op_ok hr ho hw henv hh hg hd e hf
  | bad => rw [hd] at hs; cases hs
end

/-! ### Guards, slots, operands -/
noncomputable def wantsO (all : List Oper) (o : Oper) (t : Tr Value) : Bool := optE o.guard true (fun g => wantedG g all t)

def boolOf (v : Value) : Option Bool := match v with | .bool b => some b | _ => none
theorem isB_wanted {ρ : Ren} {q : Bool} {v v' : Value} (h : VR ρ v v') : (boolOf v' == some q) = isB q v := by
  cases h <;> first
    | rfl
    | (rename_i b; cases b <;> cases q <;> rfl)

theorem guard_ok {ρ : Ren} {ops : Array Oper} {o : Oper} {t : Tr Value} {tmps : Array Value} (h : ∀ d, guardTmp ops.toList o = some d → d < tmps.size ∧ VR ρ (tget t d) (tmps.getD d undef)) :
    Region.wanted o (yielded ops tmps) = wantsO ops.toList o t := by
  unfold Region.wanted wantsO
  unfold guardTmp at h
  cases hg : o.guard with
  | none => rfl
  | some g =>
    obtain ⟨j, q⟩ := g
    rw [hg] at h
    simp only [optE_some] at h ⊢
    unfold wantedG yielded
    simp only at h ⊢
    rw [nth_eq, Array.getElem?_toList] at *
    cases ho : ops[j]? with
    | none => simp
    | some p =>
      rw [ho] at h
      simp only [optE_some] at h
      simp only [Option.bind_some]
      cases hd : p.dst with
      | none => simp
      | some d =>
        obtain ⟨h1, h2⟩ := h d hd
        simp only [Option.bind_some]
        have he : tmps.getD d undef = tmps[d] := by simp [Array.getD, h1]
        rw [he] at h2
        rw [Array.getElem?_eq_getElem h1]
        rw [← isB_wanted (q := q) h2]
        generalize tmps[d] = z
        cases z <;> rfl

theorem TRel.put {ρ : Ren} {n : Nat} {t : Tr Value} {a : Act} (h : TRel ρ n t a.tmps) (d : Option Tmp) {v v' : Value} (hv : VR ρ v v') : TRel ρ n (tput t d v) (a.put d v').tmps := by
  cases d with
  | none => exact h
  | some d =>
    show TRel ρ n (t.set d v) (a.tmps.setIfInBounds d v')
    rcases Nat.lt_or_ge d n with hd | hd
    · exact h.set hd hv
    · refine ⟨by simpa using h.1, fun j hj => ?_⟩
      rw [tget_set, if_neg (fun e : j = d => absurd (Nat.lt_of_le_of_lt hd (e ▸ hj)) (Nat.lt_irrefl n))]
      have := h.2 j hj
      have hs : a.tmps.setIfInBounds d v' = a.tmps := by
        apply Array.setIfInBounds_eq_of_size_le
        rw [h.1]; exact hd
      rw [hs]; exact this

theorem put_defers (a : Act) (d : Option Tmp) (v : Value) : (a.put d v).defers = a.defers := by cases d <;> rfl
theorem put_size (a : Act) (d : Option Tmp) (v : Value) : (a.put d v).tmps.size = a.tmps.size := by cases d <;> simp [Act.put]

theorem VR.of_constC {ρ : Ren} {v : Value} (h : constC v = true) : VR ρ v v := by
  unfold constC at h
  split at h
  · exact .iface _ (VR.of_gndC h)
  · exact VR.of_gndC h

theorem anys_eq {α : Type} (f : α → Bool) (a : List α) : anys f a = a.any f := by
  induction a with
  | nil => rfl
  | cons x a ih => show bcond (f x) true (anys f a) = _; rw [ih, bcond_eq]; cases h : f x <;> simp [h]

theorem env_ok {ρ : Ren} {Gs : List Nat} {N n : Nat} {t : Tr Value} {a : Act} (ht : TRel ρ n t a.tmps) (hN : N ≤ n) (hg : GOk Gs ρ) {x : Operand} (hx : opndOk Gs N x = true) : VR ρ (envOf t x) (a.eval x) := by
  cases x with
  | tmp i =>
    have : i + 1 ≤ N := ble_true hx
    exact ht.2 i (Nat.lt_of_lt_of_le this hN)
  | const v => exact VR.of_constC hx
  | global g =>
    have hm : g ∈ Gs := by
      have hx' : anys (Nat.beq g) Gs = true := hx
      rw [anys_eq, List.any_eq_true] at hx'
      obtain ⟨y, h1, h2⟩ := hx'
      rwa [Nat.eq_of_beq_eq_true h2]
    have := VR.ptr (ρ := ρ) (b := g) 0 (hg g hm)
    simpa [envOf, Act.eval] using this
  | func f => exact .func f rfl (fun i x y hx => by simp at hx) rfl (fun i x y hx => by simp at hx)

theorem operOk_opnds {Gs : List Nat} {N : Nat} {all : List Oper} {o : Oper} (h : operOk Gs N all o = true) : ∀ x ∈ o.op.operands, opndOk Gs N x = true := by
  unfold operOk at h
  rw [bcond_eq, alls_eq] at h
  cases hq : o.op.operands.toList.all (opndOk Gs N) with
  | false => rw [hq] at h; cases h
  | true => exact fun x hx => List.all_eq_true.1 hq x (by simpa using hx)
theorem operOk_guard {Gs : List Nat} {N : Nat} {all : List Oper} {o : Oper} (h : operOk Gs N all o = true) {d : Tmp} (hd : guardTmp all o = some d) : d < N := by
  unfold operOk at h
  rw [bcond_eq] at h
  cases hq : alls (opndOk Gs N) o.op.operands.toList with
  | false => rw [hq] at h; cases h
  | true => rw [hq, cond_true, hd, optE_some] at h; exact ble_true h

/-! ### A region in its text's order -/
theorem dOps_cons (o : Oper) (l all : List Oper) (T : TyT) (r : Rec) (t : Tr Value) (h : AHeap) : dOps (o :: l) all T r t h =
    bcond (wantsO all o t) (optE (stepOp (opD o.op T) T r (envOf t) h) .fail (fun p => dOps l all T r (tput t o.dst p.1) p.2)) (dOps l all T r (tput t o.dst undef) h) := by
  show opsCons o l (dOps l) all T r t h = _
  unfold opsCons opRun wantsO
  rw [stepK_eq]
  cases o.guard with
  | none => rfl
  | some g => rfl

theorem dOps_norm (all : List Oper) (T : TyT) (r : Rec) : ∀ (l : List Oper) (t : Tr Value) (h : AHeap), dOps l all T r t h = .fail ∨ ∃ t' h', dOps l all T r t h = .norm t' h' := by
  intro l
  induction l with
  | nil => intro t h; exact .inr ⟨t, h, rfl⟩
  | cons o l ih =>
    intro t h
    rw [dOps_cons]
    cases wantsO all o t with
    | false => exact ih _ _
    | true =>
      rw [bcond_true]
      cases stepOp (opD o.op T) T r (envOf t) h with
      | none => exact .inl rfl
      | some p => exact ih _ _

theorem dOps_mono {all : List Oper} {T : TyT} {r : Rec} : ∀ {l : List Oper} {t t' : Tr Value} {h h' : AHeap}, dOps l all T r t h = .norm t' h' → h.next ≤ h'.next := by
  intro l
  induction l with
  | nil => intro t t' h h' e; cases e; exact Nat.le_refl _
  | cons o l ih =>
    intro t t' h h' e
    rw [dOps_cons] at e
    cases hw : wantsO all o t with
    | false => rw [hw] at e; exact ih e
    | true =>
      rw [hw, bcond_true] at e
      cases hs : stepOp (opD o.op T) T r (envOf t) h with
      | none => rw [hs] at e; cases e
      | some p => rw [hs] at e; exact Nat.le_trans (stepOp_mono hs) (ih e)

/-- What a walk of operations leaves. -/
structure Left (ρ : Ren) (h : AHeap) (w : World) (a : Act) (t' : Tr Value) (h' : AHeap) (a' : Act) (w' : World) : Prop where
  ex : ∃ ρ', Ev ρ h w ρ' h' w' ∧ TRel ρ' a.tmps.size t' a'.tmps
  defers : a'.defers = a.defers

theorem Left.step {ρ ρ₁ : Ren} {h h₁ h' : AHeap} {w w₁ w' : World} {a a₁ a' : Act} {t' : Tr Value} (hev : Ev ρ h w ρ₁ h₁ w₁) (hs : a₁.tmps.size = a.tmps.size) (hd : a₁.defers = a.defers) (hl : Left ρ₁ h₁ w₁ a₁ t' h' a' w') : Left ρ h w a t' h' a' w' := by
  obtain ⟨⟨ρ', h1, h2⟩, h3⟩ := hl
  exact ⟨⟨ρ', hev.trans h1, hs ▸ h2⟩, h3.trans hd⟩

theorem ops_ok {T : TyT} {P : Program} (hT : TabOK T P) {Gs : List Nat} {r : Rec} (hr : RecOk P Gs r) {ro : Option Nat} {ops : Array Oper} {N : Nat} (hops : ∀ o ∈ ops.toList, operOk Gs N ops.toList o = true)
    {t' : Tr Value} {h' : AHeap} : ∀ (l : List Oper) (i : Nat) (t : Tr Value) (h : AHeap), ops.toList.drop i = l → dOps l ops.toList T r t h = .norm t' h' →
    ∀ (ρ : Ren) (a : Act) (w : World), TRel ρ a.tmps.size t a.tmps → N ≤ a.tmps.size → HR ρ h w.heap → Free ρ h.next h'.next → GOk Gs ρ → ∀ (Q : Exit → Act → World → Prop), (∀ a' w', Left ρ h w a t' h' a' w' → Q .normal a' w') →
    GoesR P ro ops Q (List.range' i l.length) a w := by
  intro l
  induction l with
  | nil =>
    intro i t h hl e ρ a w ht hN hh hf hg Q hQ
    cases e
    exact goesR_nil (hQ _ _ ⟨⟨ρ, Ev.refl hh, ht⟩, rfl⟩)
  | cons o l ih =>
    intro i t h hl e ρ a w ht hN hh hf hg Q hQ
    have ho : ops[i]? = some o := by
      have : ops.toList[i]? = some o := by
        have h1 := congrArg List.head? hl
        rwa [List.head?_drop, List.head?_cons] at h1
      simpa using this
    have hl' : ops.toList.drop (i + 1) = l := by
      have h1 := congrArg List.tail hl
      rwa [List.tail_drop, List.tail_cons] at h1
    have hmem : o ∈ ops.toList := by
      have := Array.mem_of_getElem? ho
      simpa using this
    have hok := hops o hmem
    have hwt : Region.wanted o (yielded ops a.tmps) = wantsO ops.toList o t := guard_ok (ρ := ρ) fun d hd => by
      have := operOk_guard hok hd
      exact ⟨Nat.lt_of_lt_of_le this hN, ht.2 d (Nat.lt_of_lt_of_le this hN)⟩
    rw [List.length_cons, List.range'_succ]
    rw [dOps_cons] at e
    cases hw : wantsO ops.toList o t with
    | false =>
      rw [hw, bcond_false] at e
      rw [hw] at hwt
      refine goesR_cons (opk_skip (by rw [ho]; simpa using hwt) ?_)
      rw [ho]
      refine ih (i + 1) _ h hl' e ρ _ w ?_ (by rw [put_size]; exact hN) hh hf hg Q fun a' w' hL => hQ _ _ (hL.step (Ev.refl hh) (put_size _ _ _) (put_defers _ _ _))
      rw [put_size]
      exact ht.put _ (VR.undef _)
    | true =>
      rw [hw, bcond_true] at e
      rw [hw] at hwt
      cases hs : stepOp (opD o.op T) T r (envOf t) h with
      | none => rw [hs] at e; cases e
      | some p =>
        obtain ⟨v, h₁⟩ := p
        rw [hs, optE_some] at e
        have hm1 := stepOp_mono hs
        have hm2 := dOps_mono e
        refine goesR_cons ((op_ok hT hr ho hwt (fun x hx => env_ok ht hN hg (operOk_opnds hok x hx)) hh hg hs (hf.left hm2)).mono fun v' w₁ hc => ?_)
        obtain ⟨ρ₁, hv, hev⟩ := hc
        rw [ho]
        refine ih (i + 1) _ h₁ hl' e ρ₁ _ w₁ ?_ (by rw [put_size]; exact hN) hev.rel (hev.free hf) (hg.mono hev.sub) Q fun a' w' hL => hQ _ _ (hL.step hev (put_size _ _ _) (put_defers _ _ _))
        rw [put_size]
        exact (ht.mono hev.sub).put _ hv
end Nt

namespace Nt
open Go

/-! ### Values that are alike are the same -/
theorem eqv_sound : ∀ n, (∀ a b : Value, eqv n a b = true → a = b) ∧ (∀ a b : List Value, eqvL n a b = true → a = b) := by
  have base : ∀ n, ((∀ a b : Value, eqv n a b = true → a = b) → ∀ a b : List Value, eqvL n a b = true → a = b) → True := fun _ _ => trivial
  have addr : ∀ {a b : Addr}, addrEq a b = true → a = b := by
    intro a b h
    obtain ⟨x, y, z⟩ := a
    obtain ⟨x', y', z'⟩ := b
    simp only [addrEq, Bool.and_eq_true, Option.isNone_iff_eq_none] at h
    obtain ⟨⟨⟨h1, h2⟩, h3⟩, h4⟩ := h
    have := Nat.eq_of_beq_eq_true h1
    have := Nat.eq_of_beq_eq_true h2
    subst_vars
    rfl
  have k1 : ∀ {a b : IntKind}, kindEq a b = true → a = b := fun {a b} h => by rw [kindEq_eq] at h; exact of_decide_eq_true h
  have k2 : ∀ {a b : Int}, eqI a b = true → a = b := fun {a b} h => by rw [eqI_eq] at h; exact eq_of_beq h
  have k3 : ∀ {a b : ByteArray}, eqBytes (strL a) (strL b) = true → a = b := fun {a b} h => by
    rw [eqBytes_eq] at h
    have h1 : a.data.toList = b.data.toList := eq_of_beq h
    cases a; cases b
    simp only at h1
    rw [Array.ext' h1]
  have k4 : ∀ {a b : Nat}, Nat.beq a b = true → a = b := fun h => Nat.eq_of_beq_eq_true h
  intro n
  induction n with
  | zero =>
    refine ⟨fun a b h => ?_, fun a b h => ?_⟩
    · unfold eqv at h
      split at h <;> (try simp only [Bool.and_eq_true] at h) <;> first
        | rfl
        | (rw [eq_of_beq h])
        | (rw [k3 h])
        | (rw [addr h])
        | (rw [k4 h])
        | (rw [k1 h.1, k2 h.2])
        | (rw [k4 h.1, k4 h.2])
        | (rw [addr h.1.1, k4 h.1.2, k4 h.2])
        | (cases h; done)
        | (exact absurd ‹0 = Nat.succ _› (fun e => Nat.noConfusion e))
    · unfold eqvL at h
      split at h <;> first
        | rfl
        | (cases h; done)
        | (exact absurd ‹0 = Nat.succ _› (fun e => Nat.noConfusion e))
  | succ n ih =>
    obtain ⟨ih1, ih2⟩ := ih
    have k5 : ∀ {a b : Array Value}, eqvL n a.toList b.toList = true → a = b := fun h => Array.ext' (ih2 _ _ h)
    refine ⟨fun a b h => ?_, fun a b h => ?_⟩
    · unfold eqv at h
      split at h <;> (try simp only [Bool.and_eq_true] at h) <;> first
        | rfl
        | (rw [eq_of_beq h])
        | (rw [k3 h])
        | (rw [addr h])
        | (rw [k4 h])
        | (rw [k1 h.1, k2 h.2])
        | (rw [k4 h.1, k4 h.2])
        | (rw [addr h.1.1, k4 h.1.2, k4 h.2])
        | (cases h; done)
        | (rename_i e; have e' := Nat.succ.inj e; subst e'; rw [k4 h.1.1, k5 h.1.2, k5 h.2])
        | (rename_i e; have e' := Nat.succ.inj e; subst e'; rw [k4 h.1, ih1 _ _ h.2])
        | (rename_i e; have e' := Nat.succ.inj e; subst e'; rw [k5 h])
    · unfold eqvL at h
      split at h
      · rfl
      · rename_i e
        have e' := Nat.succ.inj e
        subst e'
        rw [Bool.and_eq_true] at h
        rw [ih1 _ _ h.1, ih2 _ _ h.2]
      · cases h

/-! ### One operation of a region -/
noncomputable def DS (T : TyT) (r : Rec) (all : List Oper) (o : Oper) (t : Tr Value) (h : AHeap) : Option (Value × AHeap) :=
  bcond (wantsO all o t) (stepOp (opD o.op T) T r (envOf t) h) (some (undef, h))

theorem DS_mono {T : TyT} {r : Rec} {all : List Oper} {o : Oper} {t : Tr Value} {h h' : AHeap} {v : Value} (hs : DS T r all o t h = some (v, h')) : h.next ≤ h'.next := by
  unfold DS at hs
  cases hw : wantsO all o t with
  | false => rw [hw] at hs; cases hs; exact Nat.le_refl _
  | true => rw [hw, bcond_true] at hs; exact stepOp_mono hs

theorem drawGo_cons (o : Oper) (l all : List Oper) (M : Tr Nat) (hv : List Nat) (T : TyT) (r : Rec) (i : Nat) (t : Tr Value) (h : AHeap) (hs : List AHeap) (ps : List Pend) :
    drawGo (o :: l) all M hv T r i t h hs ps = optE (DS T r all o t h) .fail (fun p =>
      drawGo l all M hv T r (i + 1) (tput t o.dst p.1) p.2 (bcond (isHeavy (opD o.op T)) (p.2 :: hs) hs)
        (bcond (wantsO all o t && isRead (opD o.op T)) (pendOf M hv o.op i t p.1 ps) ps)) := by
  show drawCons o l (drawGo l) all M hv T r i t h hs ps = _
  have key : ∀ q : Bool, bcond q (drawRun o (drawGo l) all M hv T r i t h hs ps) (drawSkip o (drawGo l) all M hv T r i t h hs ps) =
      optE (bcond q (stepOp (opD o.op T) T r (envOf t) h) (some (undef, h))) .fail (fun p =>
      drawGo l all M hv T r (i + 1) (tput t o.dst p.1) p.2 (bcond (isHeavy (opD o.op T)) (p.2 :: hs) hs)
        (bcond (q && isRead (opD o.op T)) (pendOf M hv o.op i t p.1 ps) ps)) := by
    intro q
    cases q with
    | false => rfl
    | true =>
      simp only [bcond_true, Bool.true_and]
      unfold drawRun
      simp only []
      rw [stepK_eq]
      cases stepOp (opD o.op T) T r (envOf t) h with
      | none => rfl
      | some p =>
        simp only [optE_some]
        cases hd : opD o.op T <;> rfl
  unfold drawCons
  unfold DS wantsO
  cases o.guard with
  | none => exact key true
  | some g => exact key _

noncomputable def heapsAfter (T : TyT) (hh : Nat → AHeap) : List Oper → Nat → List AHeap
  | [], _ => []
  | o :: l, i => bcond (isHeavy (opD o.op T)) (hh (i + 1) :: heapsAfter T hh l (i + 1)) (heapsAfter T hh l (i + 1))

theorem heapsAfter_congr {T : TyT} {hh hh' : Nat → AHeap} : ∀ (l : List Oper) (i : Nat), (∀ j, i ≤ j → hh j = hh' j) → heapsAfter T hh l i = heapsAfter T hh' l i := by
  intro l
  induction l with
  | nil => intro i _; rfl
  | cons o l ih =>
    intro i h
    unfold heapsAfter
    rw [ih (i + 1) (fun j hj => h j (by omega)), h (i + 1) (by omega)]

noncomputable def loOf (M : Tr Nat) (hv : List Nat) (i : Nat) : Nat := count (fun j => hasBit (maskAt M i) j) hv
noncomputable def hiOf (M : Tr Nat) (hv : List Nat) (i : Nat) : Nat := count (fun j => !(hasBit (maskAt M j) i)) hv

theorem pendOf_sub {M : Tr Nat} {hv : List Nat} {o : Op} {i : Nat} {t : Tr Value} {v : Value} {ps : List Pend} : ∀ p ∈ ps, p ∈ pendOf M hv o i t v ps := by
  intro p hp
  unfold pendOf
  simp only []
  rw [bcond_eq]
  cases Nat.beq (count (fun j => hasBit (maskAt M i) j) hv) (count (fun j => !(hasBit (maskAt M j) i)) hv) with
  | true => exact hp
  | false => exact List.mem_cons_of_mem _ hp
theorem pendOf_mem {M : Tr Nat} {hv : List Nat} {o : Op} {i : Nat} {t : Tr Value} {v : Value} {ps : List Pend} (h : loOf M hv i ≠ hiOf M hv i) : (⟨o, t, v, loOf M hv i, hiOf M hv i⟩ : Pend) ∈ pendOf M hv o i t v ps := by
  unfold pendOf
  simp only []
  rw [show Nat.beq (count (fun j => hasBit (maskAt M i) j) hv) (count (fun j => !(hasBit (maskAt M j) i)) hv) = false from Tr.beq_f h, bcond_false]
  exact List.mem_cons_self ..

def at0 {α : Type} (i : Nat) (x : α) (f : Nat → α) : Nat → α := fun j => if j = i then x else f j
theorem at0_same {α : Type} (i : Nat) (x : α) (f : Nat → α) : at0 i x f i = x := by simp [at0]
theorem at0_ne {α : Type} {i j : Nat} (x : α) (f : Nat → α) (h : j ≠ i) : at0 i x f j = f j := by simp [at0, h]

theorem drawGo_trace {all : List Oper} {M : Tr Nat} {hv : List Nat} {T : TyT} {r : Rec} : ∀ (l : List Oper) (i : Nat) (t : Tr Value) (h : AHeap) (hs : List AHeap) (ps : List Pend) (t' : Tr Value) (h' : AHeap) (hs' : List AHeap) (ps' : List Pend),
    drawGo l all M hv T r i t h hs ps = .ok t' h' hs' ps' →
    ∃ (ts : Nat → Tr Value) (hh : Nat → AHeap) (vs : Nat → Value), ts i = t ∧ hh i = h ∧ ts (i + l.length) = t' ∧ hh (i + l.length) = h' ∧
      (∀ j o, l[j]? = some o → DS T r all o (ts (i + j)) (hh (i + j)) = some (vs (i + j), hh (i + j + 1)) ∧ ts (i + j + 1) = tput (ts (i + j)) o.dst (vs (i + j))) ∧
      hs'.reverse = hs.reverse ++ heapsAfter T hh l i ∧ (∀ p ∈ ps, p ∈ ps') ∧
      (∀ j o, l[j]? = some o → (wantsO all o (ts (i + j)) && isRead (opD o.op T)) = true → loOf M hv (i + j) ≠ hiOf M hv (i + j) → (⟨o.op, ts (i + j), vs (i + j), loOf M hv (i + j), hiOf M hv (i + j)⟩ : Pend) ∈ ps') := by
  intro l
  induction l with
  | nil =>
    intro i t h hs ps t' h' hs' ps' e
    cases e
    exact ⟨fun _ => t, fun _ => h, fun _ => undef, rfl, rfl, rfl, rfl, fun j o hj => by simp at hj, by simp [heapsAfter], fun _ hp => hp, fun j o hj => by simp at hj⟩
  | cons o l ih =>
    intro i t h hs ps t' h' hs' ps' e
    rw [drawGo_cons] at e
    cases hd : DS T r all o t h with
    | none => rw [hd] at e; cases e
    | some p =>
      obtain ⟨v, h₁⟩ := p
      rw [hd, optE_some] at e
      obtain ⟨ts, hh, vs, e1, e2, e3, e4, e5, e6, e7, e8⟩ := ih _ _ _ _ _ _ _ _ _ e
      have hlen : i + (o :: l).length = i + 1 + l.length := by rw [List.length_cons]; omega
      refine ⟨at0 i t ts, at0 i h hh, at0 i v vs, at0_same _ _ _, at0_same _ _ _, ?_, ?_, ?_, ?_, ?_, ?_⟩
      · rw [hlen, at0_ne _ _ (by omega)]; exact e3
      · rw [hlen, at0_ne _ _ (by omega)]; exact e4
      · intro j o' hj
        cases j with
        | zero =>
          simp only [List.getElem?_cons_zero, Option.some.injEq] at hj
          subst hj
          rw [Nat.add_zero, at0_same, at0_same, at0_same, at0_ne _ _ (by omega), at0_ne _ _ (by omega), e1, e2]
          exact ⟨hd, rfl⟩
        | succ j =>
          have hj' : l[j]? = some o' := by simpa using hj
          have := e5 j o' hj'
          rw [show i + (j + 1) = i + 1 + j by omega]
          rw [at0_ne _ _ (by omega), at0_ne _ _ (by omega), at0_ne _ _ (by omega), at0_ne _ _ (by omega), at0_ne _ _ (by omega)]
          exact this
      · rw [e6, heapsAfter, ← heapsAfter_congr (hh := hh) (hh' := at0 i h hh) l (i + 1) (fun j hj => (at0_ne _ _ (by omega)).symm)]
        rw [at0_ne _ _ (by omega), e2]
        cases isHeavy (opD o.op T) with
        | false => rfl
        | true => simp
      · intro p hp
        refine e7 p ?_
        cases (wantsO all o t && isRead (opD o.op T)) with
        | false => exact hp
        | true => exact pendOf_sub p hp
      · intro j o' hj hw hne
        cases j with
        | zero =>
          simp only [List.getElem?_cons_zero, Option.some.injEq] at hj
          subst hj
          rw [Nat.add_zero] at hw hne ⊢
          rw [at0_same] at hw ⊢
          rw [at0_same]
          refine e7 _ ?_
          rw [hw, bcond_true]
          exact pendOf_mem hne
        | succ j =>
          have hj' : l[j]? = some o' := by simpa using hj
          rw [show i + (j + 1) = i + 1 + j by omega] at hw hne ⊢
          rw [at0_ne _ _ (by omega)] at hw ⊢
          rw [at0_ne _ _ (by omega)]
          exact e8 j o' hj' hw hne

/-! ### How many heavy operations stand ahead -/
theorem count_cons (f : Nat → Bool) (x : Nat) (l : List Nat) : count f (x :: l) = if f x then count f l + 1 else count f l := by
  show bcond (f x) (count f l + 1) (count f l) = _
  cases f x <;> rfl
theorem count_le {f g : Nat → Bool} : ∀ {l : List Nat}, (∀ x ∈ l, f x = true → g x = true) → count f l ≤ count g l := by
  intro l
  induction l with
  | nil => intro _; exact Nat.le_refl _
  | cons x l ih =>
    intro h
    have := ih fun y hy => h y (List.mem_cons_of_mem _ hy)
    rw [count_cons, count_cons]
    have hx := h x (List.mem_cons_self ..)
    cases hf : f x with
    | false => cases hg : g x <;> simp <;> omega
    | true => rw [hx hf]; simp; omega
theorem count_lt {f g : Nat → Bool} : ∀ {l : List Nat}, (∀ x ∈ l, f x = true → g x = true) → (∃ x ∈ l, f x = false ∧ g x = true) → count f l < count g l := by
  intro l
  induction l with
  | nil => intro _ ⟨x, hx, _⟩; simp at hx
  | cons x l ih =>
    intro h hex
    have hle := count_le (f := f) (g := g) (l := l) fun y hy => h y (List.mem_cons_of_mem _ hy)
    rw [count_cons, count_cons]
    have hx := h x (List.mem_cons_self ..)
    by_cases hex' : ∃ y ∈ l, f y = false ∧ g y = true
    · have := ih (fun y hy => h y (List.mem_cons_of_mem _ hy)) hex'
      cases hf : f x with
      | false => cases hg : g x <;> simp <;> omega
      | true => rw [hx hf]; simp; omega
    · obtain ⟨y, hy, h1, h2⟩ := hex
      rcases List.mem_cons.1 hy with rfl | hy
      · rw [h1, h2]; simp; omega
      · exact absurd ⟨y, hy, h1, h2⟩ hex'

def below (p : Nat) (j : Nat) : Bool := Nat.ble (Nat.succ j) p
theorem below_true {p j : Nat} : below p j = true ↔ j < p := ⟨fun h => ble_true h, fun h => Nat.ble_eq_true_of_le (Nat.succ_le_of_lt h)⟩
theorem below_false {p j : Nat} : below p j = false ↔ p ≤ j := by
  cases h : below p j with
  | false => exact ⟨fun _ => by have : p < Nat.succ j := ble_false h; omega, fun _ => rfl⟩
  | true => exact ⟨fun h' => Bool.noConfusion h', fun h' => by have := below_true.1 h; omega⟩

theorem heavyIx_cons (T : TyT) (o : Oper) (l : List Oper) (i : Nat) : heavyIx T (o :: l) i = bcond (isHeavy (opD o.op T)) (i :: heavyIx T l (i + 1)) (heavyIx T l (i + 1)) := rfl
theorem heavyIx_mem {T : TyT} : ∀ {l : List Oper} {i x : Nat}, x ∈ heavyIx T l i ↔ ∃ j o, x = i + j ∧ l[j]? = some o ∧ isHeavy (opD o.op T) = true := by
  intro l
  induction l with
  | nil => intro i x; constructor
           · intro h; cases (h : x ∈ ([] : List Nat))
           · rintro ⟨j, o, _, h, _⟩; simp at h
  | cons o l ih =>
    intro i x
    rw [heavyIx_cons]
    have tail : (∃ j o', x = i + 1 + j ∧ l[j]? = some o' ∧ isHeavy (opD o'.op T) = true) ↔ ∃ j o', 0 < j ∧ x = i + j ∧ (o :: l)[j]? = some o' ∧ isHeavy (opD o'.op T) = true := by
      constructor
      · rintro ⟨j, o', h1, h2, h3⟩; exact ⟨j + 1, o', by omega, by omega, by simpa using h2, h3⟩
      · rintro ⟨j, o', h0, h1, h2, h3⟩
        obtain ⟨j, rfl⟩ : ∃ k, j = k + 1 := ⟨j - 1, by omega⟩
        exact ⟨j, o', by omega, by simpa using h2, h3⟩
    cases ho : isHeavy (opD o.op T) with
    | false =>
      rw [bcond_false, ih, tail]
      constructor
      · rintro ⟨j, o', h0, h1⟩; exact ⟨j, o', h1⟩
      · rintro ⟨j, o', h1, h2, h3⟩
        refine ⟨j, o', ?_, h1, h2, h3⟩
        rcases Nat.eq_zero_or_pos j with rfl | h
        · simp at h2; subst h2; rw [ho] at h3; cases h3
        · exact h
    | true =>
      rw [bcond_true, List.mem_cons, ih, tail]
      constructor
      · rintro (rfl | ⟨j, o', h0, h1⟩)
        · exact ⟨0, o, rfl, rfl, ho⟩
        · exact ⟨j, o', h1⟩
      · rintro ⟨j, o', h1, h2, h3⟩
        rcases Nat.eq_zero_or_pos j with rfl | h
        · exact .inl (by omega)
        · exact .inr ⟨j, o', h, h1, h2, h3⟩

theorem count_zero {f : Nat → Bool} : ∀ {l : List Nat}, (∀ x ∈ l, f x = false) → count f l = 0 := by
  intro l
  induction l with
  | nil => intro _; rfl
  | cons x l ih => intro h; rw [count_cons, h x (List.mem_cons_self ..), if_neg (by simp)]; exact ih fun y hy => h y (List.mem_cons_of_mem _ hy)

theorem heapsAfter_get {T : TyT} {hh : Nat → AHeap} : ∀ (l : List Oper) (i j : Nat) (o : Oper), l[j]? = some o → isHeavy (opD o.op T) = true → (heapsAfter T hh l i)[count (below (i + j)) (heavyIx T l i)]? = some (hh (i + j + 1)) := by
  intro l
  induction l with
  | nil => intro i j o h; simp at h
  | cons o l ih =>
    intro i j o' hj ho'
    rw [heavyIx_cons]
    unfold heapsAfter
    cases j with
    | zero =>
      simp only [List.getElem?_cons_zero, Option.some.injEq] at hj
      subst hj
      rw [ho', bcond_true, bcond_true]
      have : count (below (i + 0)) (i :: heavyIx T l (i + 1)) = 0 := count_zero fun x hx => by
        rw [below_false]
        rcases List.mem_cons.1 hx with rfl | hx
        · omega
        · obtain ⟨k, _, h1, _⟩ := heavyIx_mem.1 hx; omega
      rw [this]; rfl
    | succ j =>
      have hj' : l[j]? = some o' := by simpa using hj
      have := ih (i + 1) j o' hj' ho'
      rw [show i + 1 + j = i + (j + 1) by omega] at this
      cases ho : isHeavy (opD o.op T) with
      | false => rw [bcond_false, bcond_false]; exact this
      | true =>
        rw [bcond_true, bcond_true, count_cons, if_pos (below_true.2 (by omega)), List.getElem?_cons_succ]
        exact this

theorem count_succ {T : TyT} : ∀ (l : List Oper) (i j : Nat) (o : Oper), l[j]? = some o → isHeavy (opD o.op T) = true → count (below (i + j + 1)) (heavyIx T l i) = count (below (i + j)) (heavyIx T l i) + 1 := by
  intro l
  induction l with
  | nil => intro i j o h; simp at h
  | cons o l ih =>
    intro i j o' hj ho'
    rw [heavyIx_cons]
    have far : ∀ p, p ≤ i + 1 → count (below p) (heavyIx T l (i + 1)) = 0 := fun p hp => count_zero fun x hx => by
      obtain ⟨k, _, h1, _⟩ := heavyIx_mem.1 hx
      exact below_false.2 (by omega)
    cases j with
    | zero =>
      simp only [List.getElem?_cons_zero, Option.some.injEq] at hj
      subst hj
      rw [ho', bcond_true, count_cons, count_cons, if_pos (below_true.2 (by omega)), if_neg (by rw [below_false.2 (by omega)]; simp), far _ (by omega), far _ (by omega)]
    | succ j =>
      have hj' : l[j]? = some o' := by simpa using hj
      have := ih (i + 1) j o' hj' ho'
      rw [show i + 1 + j = i + (j + 1) by omega] at this
      cases ho : isHeavy (opD o.op T) with
      | false => rw [bcond_false]; exact this
      | true => rw [bcond_true, count_cons, count_cons, if_pos (below_true.2 (by omega)), if_pos (below_true.2 (by omega)), this]

/-! ### The trace of a whole region -/
theorem isHeavy_S (op : Op) (T : TyT) : isHeavy (opD op T) = heavyS op := by
  cases op with
  | convert s d x =>
    simp only [opD, opConv, heavyS]
    repeat' split
    all_goals rfl
  | call c =>
    obtain ⟨callee, args, tys⟩ := c
    cases callee with
    | value g => rfl
    | invoke r n => rfl
    | builtin b =>
      cases b <;> simp only [opD, opCall, opBuiltin, heavyS, heavyB] <;> first
        | rfl
        | (split <;> rfl)
  | _ => rfl
theorem isRead_S {op : Op} {T : TyT} (h : isRead (opD op T) = true) : readS op = true := by
  cases op with
  | call c =>
    obtain ⟨callee, args, tys⟩ := c
    cases callee with
    | value g => cases h
    | invoke r n => cases h
    | builtin b =>
      cases b <;> simp only [opD, opCall, opBuiltin] at h <;> first
        | rfl
        | cases h
        | (split at h <;> cases h)
  | _ => first | rfl | cases h
theorem opD_alloc {op : Op} {T : TyT} {f : TyT → Env → Option (AObj × (Nat → Value))} (h : opD op T = .alloc f) : allocS op = true := by
  cases op with
  | convert s d x =>
    simp only [opD, opConv] at h
    repeat' split at h
    all_goals cases h
  | call c =>
    obtain ⟨callee, args, tys⟩ := c
    cases callee with
    | value g => cases h
    | invoke r n => cases h
    | builtin b =>
      cases b <;> simp only [opD, opCall, opBuiltin] at h <;> first
        | cases h
        | (split at h <;> cases h)
  | _ => first | rfl | cases h
theorem heavySx_eq (T : TyT) : ∀ (l : List Oper) (i : Nat), heavySx l i = heavyIx T l i := by
  intro l
  induction l with
  | nil => intro i; rfl
  | cons o l ih =>
    intro i
    show bcond (heavyS o.op) (i :: heavySx l (i + 1)) (heavySx l (i + 1)) = _
    rw [heavyIx_cons, isHeavy_S, ih]

structure Trace where
  ts : Nat → Tr Value
  hh : Nat → AHeap
  vs : Nat → Value

structure Trace.Ok (D : Trace) (T : TyT) (r : Rec) (ops : Array Oper) : Prop where
  step : ∀ i o, ops[i]? = some o → DS T r ops.toList o (D.ts i) (D.hh i) = some (D.vs i, D.hh (i + 1)) ∧ D.ts (i + 1) = tput (D.ts i) o.dst (D.vs i)
  pend : ∀ i o f p, ops[i]? = some o → wantsO ops.toList o (D.ts i) = true → opD o.op T = .read f →
    loOf (masks ops.toList 0 .leaf) (heavySx ops.toList 0) i ≠ hiOf (masks ops.toList 0 .leaf) (heavySx ops.toList 0) i →
    (p = 0 ∨ ∃ o', 0 < p ∧ ops[p - 1]? = some o' ∧ heavyS o'.op = true) →
    loOf (masks ops.toList 0 .leaf) (heavySx ops.toList 0) i ≤ count (below p) (heavySx ops.toList 0) → count (below p) (heavySx ops.toList 0) ≤ hiOf (masks ops.toList 0 .leaf) (heavySx ops.toList 0) i →
    f T (envOf (D.ts i)) (D.hh p) = some (D.vs i)

theorem revs_eq {α : Type} : ∀ (l a : List α), revs l a = l.reverse ++ a := by
  intro l
  induction l with
  | nil => intro a; rfl
  | cons x l ih => intro a; show revs l (x :: a) = _; rw [ih]; simp

theorem draw_trace {ops : Array Oper} {T : TyT} {r : Rec} {t t' : Tr Value} {h h' : AHeap} (e : dDraw ops.toList T r t h = .norm t' h') :
    ∃ D : Trace, D.Ok T r ops ∧ D.ts 0 = t ∧ D.hh 0 = h ∧ D.ts ops.size = t' ∧ D.hh ops.size = h' := by
  unfold dDraw at e
  rw [← heavySx_eq T] at e
  split at e
  · rename_i t₁ h₁ hs ps hgo
    cases hq : alls (pendOk T (revs hs [])) ps with
    | false => rw [hq] at e; cases e
    | true =>
      rw [hq, bcond_true] at e
      cases e
      obtain ⟨ts, hh, vs, e1, e2, e3, e4, e5, e6, e7, e8⟩ := drawGo_trace _ _ _ _ _ _ _ _ _ _ hgo
      simp only [Nat.zero_add] at e3 e4 e5 e8
      have hlen : ops.toList.length = ops.size := by simp
      rw [hlen] at e3 e4
      refine ⟨⟨ts, hh, vs⟩, ⟨fun i o ho => e5 i o (by simpa using ho), ?_⟩, e1, e2, e3, e4⟩
      intro i o f p ho hw hd hne hp hlo hhi
      have hm := e8 i o (by simpa using ho) (by rw [hw, hd]; rfl) hne
      rw [alls_eq, List.all_eq_true] at hq
      have hpk := hq _ hm
      unfold pendOk at hpk
      rw [alls_eq, List.all_eq_true] at hpk
      have hget : (revs hs [])[count (below p) (heavySx ops.toList 0)]? = some (hh p) := by
        rw [revs_eq, List.append_nil, e6, List.reverse_singleton, List.singleton_append]
        rcases hp with rfl | ⟨o', h0, h1, h2⟩
        · have : count (below 0) (heavySx ops.toList 0) = 0 := count_zero fun x _ => below_false.2 (Nat.zero_le _)
          rw [this, e2]; rfl
        · obtain ⟨q, rfl⟩ : ∃ q, p = q + 1 := ⟨p - 1, by omega⟩
          simp only [Nat.add_sub_cancel] at h1
          have hq1 : isHeavy (opD o'.op T) = true := by rw [isHeavy_S]; exact h2
          have hg := heapsAfter_get (T := T) (hh := hh) ops.toList 0 q o' (by simpa using h1) hq1
          rw [← heavySx_eq T, Nat.zero_add] at hg
          have hc : count (below (q + 1)) (heavySx ops.toList 0) = count (below q) (heavySx ops.toList 0) + 1 := by
            have := count_succ (T := T) ops.toList 0 q o' (by simpa using h1) hq1
            rwa [← heavySx_eq T, Nat.zero_add] at this
          rw [hc, List.getElem?_cons_succ]
          exact hg
      have hin : hh p ∈ tke (hiOf (masks ops.toList 0 .leaf) (heavySx ops.toList 0) i - loOf (masks ops.toList 0 .leaf) (heavySx ops.toList 0) i + 1) (drp (loOf (masks ops.toList 0 .leaf) (heavySx ops.toList 0) i) (revs hs [])) := by
        rw [tke_eq, drp_eq]
        refine List.mem_of_getElem? (i := count (below p) (heavySx ops.toList 0) - loOf (masks ops.toList 0 .leaf) (heavySx ops.toList 0) i) ?_
        rw [List.getElem?_take, if_pos (by omega), List.getElem?_drop]
        rw [show loOf (masks ops.toList 0 .leaf) (heavySx ops.toList 0) i + (count (below p) (heavySx ops.toList 0) - loOf (masks ops.toList 0 .leaf) (heavySx ops.toList 0) i) = count (below p) (heavySx ops.toList 0) by omega]
        exact hget
      have hrs := hpk _ hin
      unfold readSame at hrs
      simp only [hd] at hrs
      split at hrs
      · rename_i v hv
        rw [hv, (eqv_sound _).1 _ _ hrs]
      · cases hrs
  · cases e
end Nt

namespace Nt
open Go

/-! ### What the check of a region says -/
theorem numbered_get : ∀ (l : List Oper) (i j : Nat) (o : Oper), l[j]? = some o → (numbered l i)[j]? = some (i + j, o) := by
  intro l
  induction l with
  | nil => intro i j o h; simp at h
  | cons x l ih =>
    intro i j o h
    show ((i, x) :: numbered l (i + 1))[j]? = _
    cases j with
    | zero => simp at h; subst h; rfl
    | succ j => rw [List.getElem?_cons_succ, ih (i + 1) j o (by simpa using h)]; congr 2; omega

theorem pairsOk_get {M : Tr Nat} {hv : List Nat} {all : List Oper} : ∀ (l : List (Nat × Oper)), pairsOk M hv all l = true → ∀ (i j : Nat) (x y : Nat × Oper), i < j → l[i]? = some x → l[j]? = some y → pairOk M hv all x y = true := by
  intro l
  induction l with
  | nil => intro _ i j x y _ h; simp at h
  | cons z l ih =>
    intro h i j x y hij hx hy
    have h' : bcond (alls (pairOk M hv all z) l) (pairsOk M hv all l) false = true := h
    cases hq : alls (pairOk M hv all z) l with
    | false => rw [hq] at h'; cases h'
    | true =>
      rw [hq, bcond_true] at h'
      obtain ⟨j, rfl⟩ : ∃ k, j = k + 1 := ⟨j - 1, by omega⟩
      have hy' : l[j]? = some y := by simpa using hy
      cases i with
      | zero =>
        simp at hx; subst hx
        rw [alls_eq, List.all_eq_true] at hq
        exact hq _ (List.mem_of_getElem? hy')
      | succ i => exact ih h' i j x y (by omega) (by simpa using hx) hy'

/-- j is known to come ahead of i. -/
def Pre (l : List Oper) (i j : Nat) : Prop := hasBit (maskAt (masks l 0 .leaf) i) j = true

theorem hasBit_iff {x i : Nat} : hasBit x i = true ↔ x.testBit i = true := by
  unfold hasBit Nat.testBit
  constructor
  · intro h
    have h' : (x >>> i) &&& 1 = 1 := Nat.eq_of_beq_eq_true h
    have : 1 &&& (x >>> i) = 1 := by rw [Nat.and_comm]; exact h'
    simp [this]
  · intro h
    have h' : 1 &&& (x >>> i) ≠ 0 := by simpa using h
    rw [Nat.and_comm] at h'
    have h2 : (x >>> i) &&& 1 = (x >>> i) % 2 := Nat.and_one_is_mod _
    have : (x >>> i) &&& 1 = 1 := by omega
    show Nat.beq ((x >>> i) &&& 1) 1 = true
    rw [this]; rfl

theorem maskOf_bit {m : Tr Nat} {j : Nat} : ∀ {es : List Edge}, hasBit (maskOf m es) j = true → ∃ e ∈ es, Region.binds .any e = true ∧ (e.on = j ∨ hasBit (maskAt m e.on) j = true) := by
  intro es
  induction es with
  | nil => intro h; rw [hasBit_iff] at h; simp [maskOf] at h
  | cons e es ih =>
    intro h
    have h' : hasBit (bcond (Region.binds .any e) (Nat.lor (maskOf m es) (Nat.lor (Nat.shiftLeft 1 e.on) (match m.get e.on with | some x => x | none => 0))) (maskOf m es)) j = true := h
    cases hb : Region.binds .any e with
    | false =>
      rw [hb, bcond_false] at h'
      obtain ⟨e', h1, h2⟩ := ih h'
      exact ⟨e', List.mem_cons_of_mem _ h1, h2⟩
    | true =>
      rw [hb, bcond_true, hasBit_iff] at h'
      have h2 : (maskOf m es ||| (1 <<< e.on ||| maskAt m e.on)).testBit j = true := h'
      rw [Nat.testBit_or, Nat.testBit_or, Bool.or_eq_true, Bool.or_eq_true] at h2
      rcases h2 with h2 | h2 | h2
      · obtain ⟨e', h3, h4⟩ := ih (hasBit_iff.2 h2)
        exact ⟨e', List.mem_cons_of_mem _ h3, h4⟩
      · rw [Nat.one_shiftLeft, Nat.testBit_two_pow] at h2
        exact ⟨e, List.mem_cons_self .., hb, .inl (by simpa using h2)⟩
      · exact ⟨e, List.mem_cons_self .., hb, .inr (hasBit_iff.2 h2)⟩

theorem masks_spec : ∀ (l : List Oper) (i : Nat) (m : Tr Nat), (∀ k, i ≤ k → m.get k = none) →
    (∀ k, k < i → (masks l i m).get k = m.get k) ∧ (∀ k, i + l.length ≤ k → (masks l i m).get k = none) ∧
    ∀ j o, l[j]? = some o → ∃ m' : Tr Nat, (∀ k, m'.get k = if k < i + j then (masks l i m).get k else none) ∧ (masks l i m).get (i + j) = some (maskOf m' o.after.toList) := by
  intro l
  induction l with
  | nil => intro i m hm; exact ⟨fun _ _ => rfl, fun k hk => hm k hk, fun j o h => by simp at h⟩
  | cons x l ih =>
    intro i m hm
    obtain ⟨h1, h2, h3⟩ := ih (i + 1) (m.set i (maskOf m x.after.toList)) (fun k hk => by rw [Tr.get_set_ne _ _ (by omega)]; exact hm k (by omega))
    have e : masks (x :: l) i m = masks l (i + 1) (m.set i (maskOf m x.after.toList)) := rfl
    rw [e]
    refine ⟨fun k hk => by rw [h1 k (by omega), Tr.get_set_ne _ _ (by omega)], fun k hk => h2 k (by simp at hk; omega), fun j o hj => ?_⟩
    cases j with
    | zero =>
      simp at hj; subst hj
      have e0 : i + 0 = i := Nat.add_zero i
      rw [e0]
      refine ⟨m, fun k => ?_, by rw [h1 i (by omega), Tr.get_set_same]⟩
      split
      · rw [h1 k (by omega), Tr.get_set_ne _ _ (by omega)]
      · exact hm k (by omega)
    | succ j =>
      obtain ⟨m', h4, h5⟩ := h3 j o (by simpa using hj)
      refine ⟨m', fun k => ?_, ?_⟩
      · rw [h4 k, show i + 1 + j = i + (j + 1) by omega]
      · rw [show i + (j + 1) = i + 1 + j by omega]; exact h5

theorem pre_step {l : List Oper} {i q : Nat} (h : Pre l i q) : ∃ o e, l[i]? = some o ∧ e ∈ o.after ∧ Region.binds .any e = true ∧ (e.on = q ∨ e.on < i ∧ Pre l e.on q) := by
  obtain ⟨h1, h2, h3⟩ := masks_spec l 0 .leaf (fun _ _ => rfl)
  unfold Pre at h
  cases ho : l[i]? with
  | none =>
    rw [List.getElem?_eq_none_iff] at ho
    have := h2 i (by omega)
    unfold maskAt at h
    rw [this] at h
    rw [hasBit_iff] at h
    simp at h
  | some o =>
    obtain ⟨m', h4, h5⟩ := h3 i o ho
    rw [Nat.zero_add] at h4 h5
    have hm : maskAt (masks l 0 .leaf) i = maskOf m' o.after.toList := by unfold maskAt; rw [h5]
    rw [hm] at h
    obtain ⟨e, he, hb, hq⟩ := maskOf_bit h
    refine ⟨o, e, rfl, by simpa using he, hb, ?_⟩
    rcases hq with hq | hq
    · exact .inl hq
    · right
      unfold maskAt at hq
      rw [h4 e.on] at hq
      by_cases hlt : e.on < i
      · rw [if_pos hlt] at hq; exact ⟨hlt, hq⟩
      · rw [if_neg hlt, hasBit_iff] at hq; simp at hq

def Shut (ops : Array Oper) (listed : Array Bool) : Prop := ∀ (i : Nat) (o : Oper), listed[i]? = some true → ops[i]? = some o → ∀ e ∈ Oper.after o, Region.binds .any e = true → listed[e.on]? = some true

theorem shut_pre {ops : Array Oper} {listed : Array Bool} (h : Shut ops listed) {i q : Nat} (hi : listed[i]? = some true) (hp : Pre ops.toList i q) : listed[q]? = some true := by
  induction i using Nat.strongRecOn with
  | _ i ih =>
    obtain ⟨o, e, ho, he, hb, hq⟩ := pre_step hp
    have ho' : ops[i]? = some o := by simpa using ho
    have hl := h i o hi ho' e he hb
    rcases hq with rfl | ⟨hlt, hq⟩
    · exact hl
    · exact ih e.on hlt hl hq

theorem ready_spec {ops : Array Oper} {listed : Array Bool} {i : Nat} (hs : listed.size = ops.size) (h : i ∈ Region.ready .any ops listed) :
    ∃ o, ops[i]? = some o ∧ listed[i]? = some false ∧ ∀ e ∈ o.after, Region.binds .any e = true → listed[e.on]? = some true := by
  have h1 := (List.mem_filter.1 h).2
  have h0 := List.mem_range.1 (List.mem_filter.1 h).1
  rw [Bool.and_eq_true] at h1
  obtain ⟨h2, h3⟩ := h1
  have ho : ops[i]? = some ops[i] := Array.getElem?_eq_getElem h0
  refine ⟨ops[i], ho, ?_, ?_⟩
  · have hl : i < listed.size := by omega
    rw [Array.getD_eq_getD_getElem?, Array.getElem?_eq_getElem hl] at h2
    rw [Array.getElem?_eq_getElem hl]
    simpa using h2
  · intro e he hb
    rw [ho, Option.map_some, Option.getD_some, Array.all_eq_true] at h3
    obtain ⟨k, hk, rfl⟩ := Array.mem_iff_getElem.1 he
    have := h3 k hk
    rw [hb] at this
    simp only [Bool.not_true, Bool.false_or] at this
    rw [Array.getD_eq_getD_getElem?] at this
    cases hq : listed[(ops[i].after[k]).on]? with
    | none => rw [hq] at this; cases this
    | some b => rw [hq] at this; simp at this; rw [this]

theorem ready_pre {ops : Array Oper} {listed : Array Bool} (h : Shut ops listed) {i q : Nat} {o : Oper} (ho : ops[i]? = some o) (he : ∀ e ∈ o.after, Region.binds .any e = true → listed[e.on]? = some true) (hp : Pre ops.toList i q) : listed[q]? = some true := by
  obtain ⟨o', e, ho', h1, hb, hq⟩ := pre_step hp
  rw [Array.getElem?_toList, ho] at ho'
  cases ho'
  have hl := he e h1 hb
  rcases hq with rfl | ⟨_, hq⟩
  · exact hl
  · exact shut_pre h hl hq

/-! ### The check, as facts -/
structure DrawFacts (ops : Array Oper) : Prop where
  back : ∀ i q, Pre ops.toList i q → q < i
  edges : ∀ (i : Nat) (o : Oper), ops[i]? = some o → ∀ e ∈ o.after, Region.binds .any e = true → e.on < i
  dst : ∀ (i j : Nat) (x y : Oper) (d : Tmp), i < j → ops[i]? = some x → ops[j]? = some y → x.dst = some d → y.dst ≠ some d
  cross : ∀ (i j : Nat) (x y : Oper), i < j → ops[i]? = some x → ops[j]? = some y → Pre ops.toList j i ∨ mayCross (masks ops.toList 0 .leaf) (heavySx ops.toList 0) ops.toList x y j = true

theorem edge_pre {l : List Oper} {i : Nat} {o : Oper} {e : Edge} (ho : l[i]? = some o) (he : e ∈ o.after) (hb : Region.binds .any e = true) : Pre l i e.on := by
  obtain ⟨h1, h2, h3⟩ := masks_spec l 0 .leaf (fun _ _ => rfl)
  obtain ⟨m', h4, h5⟩ := h3 i o ho
  rw [Nat.zero_add] at h5
  unfold Pre maskAt
  rw [h5]
  have hm : e ∈ o.after.toList := by simpa using he
  show hasBit (maskOf m' o.after.toList) e.on = true
  generalize o.after.toList = es at hm
  induction es with
  | nil => simp at hm
  | cons x es ih =>
    rw [hasBit_iff]
    show (bcond (Region.binds .any x) (Nat.lor (maskOf m' es) (Nat.lor (Nat.shiftLeft 1 x.on) (match m'.get x.on with | some x => x | none => 0))) (maskOf m' es)).testBit e.on = true
    rcases List.mem_cons.1 hm with rfl | hm
    · rw [hb, bcond_true]
      show (maskOf m' es ||| (1 <<< e.on ||| _)).testBit e.on = true
      rw [Nat.testBit_or, Nat.testBit_or, Nat.one_shiftLeft, Nat.testBit_two_pow]
      simp
    · have := hasBit_iff.1 (ih hm)
      cases Region.binds .any x with
      | false => exact this
      | true =>
        rw [bcond_true]
        show (maskOf m' es ||| _).testBit e.on = true
        rw [Nat.testBit_or, this, Bool.true_or]

theorem drawOk_facts {ops : Array Oper} (h : drawOk ops.toList = true) : DrawFacts ops := by
  unfold drawOk drawOkM at h
  rw [bcond_eq] at h
  cases hq : alls (fun x : Nat × Oper => Nat.beq (Nat.shiftRight (maskAt (masks ops.toList 0 .leaf) x.1) x.1) 0) (numbered ops.toList 0) with
  | false => rw [hq] at h; cases h
  | true =>
    rw [hq, cond_true] at h
    rw [alls_eq, List.all_eq_true] at hq
    have back : ∀ i q, Pre ops.toList i q → q < i := by
      intro i q hp
      obtain ⟨o, _, ho, _⟩ := pre_step hp
      have hn := numbered_get ops.toList 0 i o ho
      rw [Nat.zero_add] at hn
      have h0 : (maskAt (masks ops.toList 0 .leaf) i) >>> i = 0 := Nat.eq_of_beq_eq_true (hq _ (List.mem_of_getElem? hn))
      rcases Nat.lt_or_ge q i with h1 | h1
      · exact h1
      · exfalso
        have hb := hasBit_iff.1 hp
        have : ((maskAt (masks ops.toList 0 .leaf) i) >>> i).testBit (q - i) = true := by
          rw [Nat.testBit_shiftRight, show i + (q - i) = q by omega]; exact hb
        rw [h0] at this
        simp at this
    have pair : ∀ (i j : Nat) (x y : Oper), i < j → ops[i]? = some x → ops[j]? = some y → pairOk (masks ops.toList 0 .leaf) (heavySx ops.toList 0) ops.toList (i, x) (j, y) = true := by
      intro i j x y hij hx hy
      have h1 := numbered_get ops.toList 0 i x (by simpa using hx)
      have h2 := numbered_get ops.toList 0 j y (by simpa using hy)
      rw [Nat.zero_add] at h1 h2
      exact pairsOk_get _ h i j _ _ hij h1 h2
    refine ⟨back, fun i o ho e he hb => back i e.on (edge_pre (by simpa using ho) he hb), ?_, ?_⟩
    · intro i j x y d hij hx hy hd e
      have := pair i j x y hij hx hy
      unfold pairOk at this
      simp only [hd, e, optE_some, Nat.beq_refl, bcond_true] at this
      cases this
    · intro i j x y hij hx hy
      have := pair i j x y hij hx hy
      unfold pairOk at this
      simp only [bcond_eq] at this
      cases hc : optE x.dst false (fun d => optE y.dst false (Nat.beq d)) with
      | true => rw [hc] at this; cases this
      | false =>
        rw [hc, cond_false] at this
        cases hb : hasBit (maskAt (masks ops.toList 0 .leaf) j) i with
        | true => exact .inl hb
        | false => rw [hb, cond_false] at this; exact .inr this

/-- What may not be crossed. -/
theorem mayCross_spec {M : Tr Nat} {hv : List Nat} {all : List Oper} {x y : Oper} {j : Nat} (h : mayCross M hv all x y j = true) :
    (∀ d, x.dst = some d → looksAt all y d = false) ∧ (∀ d, y.dst = some d → looksAt all x d = false) ∧ (heavyS y.op = true → heavyS x.op = false ∧ allocS x.op = false) ∧
    (allocS x.op = true → readS y.op = true → loOf M hv j ≠ hiOf M hv j) := by
  unfold mayCross at h
  simp only [bcond_eq] at h
  cases h1 : optE x.dst false (looksAt all y) with
  | true => rw [h1] at h; cases h
  | false =>
    rw [h1, cond_false] at h
    cases h2 : optE y.dst false (looksAt all x) with
    | true => rw [h2] at h; cases h
    | false =>
      rw [h2, cond_false] at h
      refine ⟨fun d hd => by rw [hd] at h1; exact h1, fun d hd => by rw [hd] at h2; exact h2, fun hy => ?_, fun ha hr he => ?_⟩
      · rw [hy, cond_true] at h
        cases ha : heavyS x.op <;> cases hb : allocS x.op <;> simp_all
      · have hnh : heavyS y.op = false := by
          cases hq : heavyS y.op with
          | false => rfl
          | true =>
            rw [hq, cond_true, ha] at h
            simp at h
        rw [hnh, cond_false, ha, cond_true, hr, cond_true] at h
        unfold tight at h
        rw [show count (fun j_1 => hasBit (maskAt M j) j_1) hv = count (fun j_1 => !(hasBit (maskAt M j_1) j)) hv from he, Nat.beq_refl] at h
        cases h
end Nt

namespace Nt
open Go

structure Start where
  ρ : Ren
  a : Act
  w : World

def Born (D : Trace) (i : Nat) (obj : AObj) : Prop := D.hh (i + 1) = (D.hh i).alloc obj

structure Slots (D : Trace) (s : Start) (ops : Array Oper) (listed : Array Bool) (ρ : Ren) (a : Act) : Prop where
  size : listed.size = ops.size
  shut : Shut ops listed
  tsz : a.tmps.size = s.a.tmps.size
  dfr : a.defers = s.a.defers
  slot : ∀ (i : Nat) (o : Oper) (d : Nat), listed[i]? = some true → ops[i]? = some o → o.dst = some d → d < s.a.tmps.size → VR ρ (D.vs i) (a.tmps.getD d undef)
  old : ∀ (d : Nat), d < s.a.tmps.size → (∀ (i : Nat) (o : Oper), listed[i]? = some true → ops[i]? = some o → o.dst ≠ some d) → VR ρ (tget (D.ts 0) d) (a.tmps.getD d undef)

structure Heaps (D : Trace) (s : Start) (ops : Array Oper) (listed : Array Bool) (p : Nat) (ρ : Ren) (w : World) : Prop where
  ple : p ≤ ops.size
  heavy : ∀ (i : Nat) (o : Oper), ops[i]? = some o → heavyS o.op = true → (listed[i]? = some true ↔ i < p)
  rel : HR ρ (D.hh p) w.heap
  early : ∀ (i : Nat) (o : Oper) (obj : AObj), p ≤ i → listed[i]? = some true → ops[i]? = some o → Born D i obj →
    ∃ L co, ρ (D.hh i).next = some L ∧ w.heap[L.r]? = some co ∧ OR ρ L obj co ∧ ¬ Im ρ (D.hh p) L.r ∧ s.w.heap.size ≤ L.r
  edis : ∀ (i j : Nat) (o o' : Oper) (obj obj' : AObj) (L L' : Loc), p ≤ i → i < j → listed[i]? = some true → listed[j]? = some true → ops[i]? = some o → ops[j]? = some o' → Born D i obj → Born D j obj' →
    ρ (D.hh i).next = some L → ρ (D.hh j).next = some L' → L.r ≠ L'.r
  unborn : ∀ b, (D.hh p).next ≤ b → b < (D.hh ops.size).next → (∀ (i : Nat) (o : Oper) (obj : AObj), p ≤ i → listed[i]? = some true → ops[i]? = some o → Born D i obj → b ≠ (D.hh i).next) → ρ b = none
  out : ∀ b, (b < (D.hh 0).next ∨ (D.hh ops.size).next ≤ b) → ρ b = s.ρ b
  sub : Sub s.ρ ρ
  siz : s.w.heap.size ≤ w.heap.size
  keep : ∀ r, r < s.w.heap.size → ¬ Im s.ρ (D.hh 0) r → ¬ Im ρ (D.hh p) r ∧ w.heap[r]? = s.w.heap[r]?
  rows : ∀ b c L, (D.hh 0).get b = some (.row c) → s.ρ b = some L → (D.hh p).get b = some (.row c) ∧ w.heap[L.r]? = s.w.heap[L.r]?
  tape : w.tape = s.w.tape
  os : w.os = s.w.os
  output : w.output = s.w.output

theorem getD_put_same {a : Act} {d : Tmp} (h : d < a.tmps.size) (v : Value) : (a.put (some d) v).tmps.getD d undef = v := by
  simp [Act.put, Array.getD, h]
theorem getD_put_ne {a : Act} {o : Option Tmp} {d : Tmp} (h : o ≠ some d) (v : Value) : (a.put o v).tmps.getD d undef = a.tmps.getD d undef := by
  cases o with
  | none => rfl
  | some e =>
    have : e ≠ d := fun x => h (by rw [x])
    simp only [Act.put, Array.getD_eq_getD_getElem?, Array.getElem?_setIfInBounds_ne this]

section
variable {D : Trace} {s : Start} {ops : Array Oper} {listed : Array Bool} {ρ ρ' : Ren} {a : Act} {i : Nat} {o : Oper}

theorem listed_set {i : Nat} (hi : i < listed.size) (j : Nat) : (listed.setIfInBounds i true)[j]? = if j = i then some true else listed[j]? := by
  by_cases h : j = i
  · subst h; simp [hi]
  · rw [if_neg h, Array.getElem?_setIfInBounds_ne (Ne.symm h)]

theorem Slots.step (h : Slots D s ops listed ρ a) (F : DrawFacts ops) (ho : ops[i]? = some o) (hi : listed[i]? = some false) (he : ∀ e ∈ o.after, Region.binds .any e = true → listed[e.on]? = some true)
    (hs : Sub ρ ρ') {v' : Value} (hv : VR ρ' (D.vs i) v') : Slots D s ops (listed.setIfInBounds i true) ρ' (a.put o.dst v') := by
  have hlt : i < listed.size := (Array.getElem?_eq_some_iff.1 hi).1
  refine ⟨by simpa using h.size, ?_, by rw [put_size]; exact h.tsz, by rw [put_defers]; exact h.dfr, ?_, ?_⟩
  · intro j o' hj ho' e hem hb
    rw [listed_set hlt] at hj ⊢
    split
    · rfl
    · by_cases e' : j = i
      · subst e'
        rw [ho] at ho'; cases ho'
        exact he e hem hb
      · rw [if_neg e'] at hj
        exact h.shut j o' hj ho' e hem hb
  · intro j o' d hj ho' hd hds
    rw [listed_set hlt] at hj
    by_cases e' : j = i
    · subst e'
      rw [ho] at ho'; cases ho'
      rw [hd, getD_put_same (by rw [h.tsz]; exact hds)]
      exact hv
    · rw [if_neg e'] at hj
      have hne : o.dst ≠ some d := by
        rcases Nat.lt_or_gt_of_ne e' with h1 | h1
        · exact F.dst j i o' o d h1 ho' ho hd
        · exact fun e2 => F.dst i j o o' d h1 ho ho' e2 hd
      rw [getD_put_ne hne]
      exact (h.slot j o' d hj ho' hd hds).mono hs
  · intro d hds hno
    have hne : o.dst ≠ some d := hno i o (by rw [listed_set hlt, if_pos rfl]) ho
    rw [getD_put_ne hne]
    refine (h.old d hds fun j o' hj ho' => hno j o' ?_ ho').mono hs
    rw [listed_set hlt]; split
    · rfl
    · exact hj

/-! ### Slots of the reading -/
section
variable {T : TyT} {r : Rec}
theorem ts_none (hD : D.Ok T r ops) {d : Nat} : ∀ {i : Nat}, i ≤ ops.size → (∀ (j : Nat) (o : Oper), j < i → ops[j]? = some o → o.dst ≠ some d) → tget (D.ts i) d = tget (D.ts 0) d := by
  intro i
  induction i with
  | zero => intro _ _; rfl
  | succ i ih =>
    intro hi h
    have ho : ops[i]? = some ops[i] := Array.getElem?_eq_getElem (by omega)
    rw [(hD.step i _ ho).2]
    have hne := h i _ (by omega) ho
    cases hd : ops[i].dst with
    | none => exact ih (by omega) fun j o hj => h j o (by omega)
    | some e =>
      show tget ((D.ts i).set e (D.vs i)) d = _
      rw [tget_set, if_neg (fun x => hne (by rw [hd, x]))]
      exact ih (by omega) fun j o hj => h j o (by omega)
theorem ts_some (hD : D.Ok T r ops) (F : DrawFacts ops) {d : Nat} {j : Nat} {o : Oper} (ho : ops[j]? = some o) (hd : o.dst = some d) : ∀ {i : Nat}, i ≤ ops.size → j < i → tget (D.ts i) d = D.vs j := by
  intro i
  induction i with
  | zero => intro _ h; omega
  | succ i ih =>
    intro hi h
    have ho' : ops[i]? = some ops[i] := Array.getElem?_eq_getElem (by omega)
    rw [(hD.step i _ ho').2]
    by_cases e : i = j
    · subst e
      rw [ho] at ho'; cases ho'
      rw [hd]
      show tget ((D.ts i).set d (D.vs i)) d = _
      rw [tget_set, if_pos rfl]
    · have hne := F.dst j i o _ d (by omega) ho ho' hd
      cases hd' : ops[i].dst with
      | none => exact ih (by omega) (by omega)
      | some e' =>
        show tget ((D.ts i).set e' (D.vs i)) d = _
        rw [tget_set, if_neg (fun x => hne (by rw [hd', x]))]
        exact ih (by omega) (by omega)

theorem slot_ok (h : Slots D s ops listed ρ a) (F : DrawFacts ops) (hD : D.Ok T r ops) (ho : ops[i]? = some o) (hi : listed[i]? = some false) (he : ∀ e ∈ o.after, Region.binds .any e = true → listed[e.on]? = some true)
    {d : Nat} (hds : d < s.a.tmps.size) (hl : looksAt ops.toList o d = true) : VR ρ (tget (D.ts i) d) (a.tmps.getD d undef) := by
  have hin : i < ops.size := (Array.getElem?_eq_some_iff.1 ho).1
  by_cases hw : ∃ (j : Nat) (o' : Oper), ops[j]? = some o' ∧ o'.dst = some d
  · obtain ⟨j, o', ho', hd⟩ := hw
    rcases Nat.lt_or_ge j i with h1 | h1
    · rw [ts_some hD F ho' hd (by omega) h1]
      refine h.slot j o' d ?_ ho' hd hds
      rcases F.cross j i o' o h1 ho' ho with hp | hc
      · exact ready_pre h.shut ho he hp
      · rw [(mayCross_spec hc).1 d hd] at hl; cases hl
    · have hnone : ∀ (k : Nat) (ok : Oper), k < i → ops[k]? = some ok → ok.dst ≠ some d := fun k ok hk hok e => F.dst k j ok o' d (by omega) hok ho' e hd
      rw [ts_none hD (by omega) hnone]
      refine h.old d hds fun k ok hk hok e => ?_
      have hkj : k = j := by
        rcases Nat.lt_trichotomy k j with h2 | h2 | h2
        · exact absurd hd (F.dst k j ok o' d h2 hok ho' e)
        · exact h2
        · exact absurd e (F.dst j k o' ok d h2 ho' hok hd)
      subst hkj
      rw [ho'] at hok; cases hok
      rcases Nat.lt_or_ge i k with h2 | h2
      · rcases F.cross i k o o' h2 ho ho' with hp | hc
        · have := shut_pre h.shut hk hp
          rw [hi] at this; cases this
        · rw [(mayCross_spec hc).2.1 d hd] at hl; cases hl
      · have : k = i := by omega
        subst this
        rw [hi] at hk; cases hk
  · have hno : ∀ (k : Nat) (ok : Oper), ops[k]? = some ok → ok.dst ≠ some d := fun k ok hok e => hw ⟨k, ok, hok, e⟩
    rw [ts_none hD (by omega) fun k ok _ hok => hno k ok hok]
    exact h.old d hds fun k ok _ hok => hno k ok hok

theorem looksAt_opnd {all : List Oper} {d : Nat} (h : (.tmp d : Operand) ∈ o.op.operands) : looksAt all o d = true := by
  unfold looksAt
  rw [anys_eq]
  have : o.op.operands.toList.any (isTmp d) = true := List.any_eq_true.2 ⟨.tmp d, by simpa using h, Nat.beq_refl d⟩
  rw [this]; rfl
theorem looksAt_guard {all : List Oper} {d : Nat} (h : guardTmp all o = some d) : looksAt all o d = true := by
  unfold looksAt
  rw [h, optE_some, Nat.beq_refl, bcond_eq]
  cases anys (isTmp d) o.op.operands.toList <;> rfl

theorem envR_ok {Gs : List Nat} {N : Nat} (h : Slots D s ops listed ρ a) (F : DrawFacts ops) (hD : D.Ok T r ops) (ho : ops[i]? = some o) (hi : listed[i]? = some false) (he : ∀ e ∈ o.after, Region.binds .any e = true → listed[e.on]? = some true)
    (hok : operOk Gs N ops.toList o = true) (hN : N ≤ s.a.tmps.size) (hg : GOk Gs ρ) : EnvR ρ (envOf (D.ts i)) a.eval o.op.operands := by
  intro x hx
  have hx' := operOk_opnds hok x hx
  cases x with
  | tmp d =>
    have : d + 1 ≤ N := ble_true hx'
    exact slot_ok h F hD ho hi he (Nat.lt_of_lt_of_le this hN) (looksAt_opnd hx)
  | const v => exact VR.of_constC hx'
  | global g => exact env_ok (x := .global g) (t := .leaf) (n := 0) (N := 0) (a := ⟨#[], []⟩) ⟨rfl, fun _ h => absurd h (by omega)⟩ (Nat.le_refl _) hg hx'
  | func f => exact env_ok (x := .func f) (Gs := Gs) (t := .leaf) (n := 0) (N := 0) (a := ⟨#[], []⟩) ⟨rfl, fun _ h => absurd h (by omega)⟩ (Nat.le_refl _) hg rfl
theorem guardR_ok {Gs : List Nat} {N : Nat} (h : Slots D s ops listed ρ a) (F : DrawFacts ops) (hD : D.Ok T r ops) (ho : ops[i]? = some o) (hi : listed[i]? = some false) (he : ∀ e ∈ o.after, Region.binds .any e = true → listed[e.on]? = some true)
    (hok : operOk Gs N ops.toList o = true) (hN : N ≤ s.a.tmps.size) : Region.wanted o (yielded ops a.tmps) = wantsO ops.toList o (D.ts i) := guard_ok (ρ := ρ) fun d hd => by
  have := operOk_guard hok hd
  exact ⟨by rw [h.tsz]; exact Nat.lt_of_lt_of_le this hN, slot_ok h F hD ho hi he (Nat.lt_of_lt_of_le this hN) (looksAt_guard hd)⟩

/-! ### Steps of the reading -/
theorem hh_mono (hD : D.Ok T r ops) {i j : Nat} (hij : i ≤ j) (hj : j ≤ ops.size) : (D.hh i).next ≤ (D.hh j).next := by
  induction j with
  | zero => rw [Nat.le_zero.1 hij]; exact Nat.le_refl _
  | succ j ih =>
    by_cases e : i = j + 1
    · subst e; exact Nat.le_refl _
    · have ho : ops[j]? = some ops[j] := Array.getElem?_eq_getElem (by omega)
      exact Nat.le_trans (ih (by omega) (by omega)) (DS_mono (hD.step j _ ho).1)

theorem light_step (hD : D.Ok T r ops) (ho : ops[i]? = some o) (hh : heavyS o.op = false) : D.hh (i + 1) = D.hh i ∨ ∃ obj, Born D i obj := by
  have h1 := (hD.step i o ho).1
  unfold DS at h1
  cases hw : wantsO ops.toList o (D.ts i) with
  | false => rw [hw, bcond_false] at h1; exact .inl (Prod.mk.inj (Option.some.inj h1)).2.symm
  | true =>
    rw [hw, bcond_true] at h1
    have hnh : isHeavy (opD o.op T) = false := by rw [isHeavy_S]; exact hh
    unfold stepOp stepK at h1
    cases hd : opD o.op T with
    | pure f =>
      rw [hd] at h1
      cases e : f T (envOf (D.ts i)) with
      | none => simp [e] at h1
      | some u => simp [e] at h1; exact .inl h1.2.symm
    | read f =>
      rw [hd] at h1
      cases e : f T (envOf (D.ts i)) (D.hh i) with
      | none => simp [e] at h1
      | some u => simp [e] at h1; exact .inl h1.2.symm
    | alloc f =>
      rw [hd] at h1
      cases e : f T (envOf (D.ts i)) with
      | none => simp [e] at h1
      | some p => simp [e] at h1; exact .inr ⟨p.1, h1.2.symm⟩
    | heavy f => rw [hd] at hnh; cases hnh
    | call f args => rw [hd] at hnh; cases hnh
    | bad => rw [hd] at h1; cases h1

theorem born_next {obj : AObj} (h : Born D i obj) : (D.hh (i + 1)).next = (D.hh i).next + 1 := by rw [h]; rfl
theorem born_alloc (hD : D.Ok T r ops) (ho : ops[i]? = some o) (hh : heavyS o.op = false) {obj : AObj} (hb : Born D i obj) : allocS o.op = true ∧ wantsO ops.toList o (D.ts i) = true := by
  have h1 := (hD.step i o ho).1
  have hnx := born_next hb
  unfold DS at h1
  cases hw : wantsO ops.toList o (D.ts i) with
  | false => rw [hw, bcond_false] at h1; rw [← (Prod.mk.inj (Option.some.inj h1)).2] at hnx; omega
  | true =>
    rw [hw, bcond_true] at h1
    have hnh : isHeavy (opD o.op T) = false := by rw [isHeavy_S]; exact hh
    refine ⟨?_, rfl⟩
    unfold stepOp stepK at h1
    cases hd : opD o.op T with
    | pure f =>
      rw [hd] at h1
      cases e : f T (envOf (D.ts i)) with
      | none => simp [e] at h1
      | some u => simp [e] at h1; rw [← h1.2] at hnx; omega
    | read f =>
      rw [hd] at h1
      cases e : f T (envOf (D.ts i)) (D.hh i) with
      | none => simp [e] at h1
      | some u => simp [e] at h1; rw [← h1.2] at hnx; omega
    | alloc f => exact opD_alloc hd
    | heavy f => rw [hd] at hnh; cases hnh
    | call f args => rw [hd] at hnh; cases hnh
    | bad => rw [hd] at h1; cases h1
end
end
end Nt

namespace Nt
open Go

theorem HR.adopt {ρ : Ren} {h : AHeap} {heap : Array Obj} (hr : HR ρ h heap) {L : Loc} {co : Obj} {o : AObj} (hL : ρ h.next = some L) (hc : heap[L.r]? = some co) (ho : OR ρ L o co) (hi : ¬ Im ρ h L.r) : HR ρ (h.alloc o) heap := by
  refine ⟨fun b o' hb => ?_, fun b b' o₁ o₂ L₁ L₂ h1 h2 h3 h4 e => ?_, fun b hb => ?_⟩
  · rw [AHeap.get_alloc] at hb
    by_cases e : b = h.next
    · rw [if_pos e] at hb; cases hb; subst e; exact ⟨L, co, hL, hc, ho⟩
    · rw [if_neg e] at hb; exact hr.obj b o' hb
  · rw [AHeap.get_alloc] at h1 h2
    by_cases e1 : b = h.next <;> by_cases e2 : b' = h.next
    · rw [e1, e2]
    · exfalso
      rw [if_neg e2] at h2
      rw [e1, hL] at h3; cases h3
      exact hi ⟨b', o₂, L₂, h2, h4, e.symm⟩
    · exfalso
      rw [if_neg e1] at h1
      rw [e2, hL] at h4; cases h4
      exact hi ⟨b, o₁, L₁, h1, h3, e⟩
    · rw [if_neg e1] at h1; rw [if_neg e2] at h2
      exact hr.inj _ _ _ _ _ _ h1 h2 h3 h4 e
  · have hb' : h.next + 1 ≤ b := hb
    rw [AHeap.get_alloc, if_neg (by omega)]
    exact hr.fresh b (by omega)

theorem im_alloc {ρ : Ren} {h : AHeap} {L : Loc} {o : AObj} {x : Nat} (hL : ρ h.next = some L) (hi : Im ρ (h.alloc o) x) : x = L.r ∨ Im ρ h x := by
  obtain ⟨b, o', M, h1, h2, h3⟩ := hi
  rw [AHeap.get_alloc] at h1
  by_cases e : b = h.next
  · rw [e, hL] at h2; cases h2; exact .inl h3.symm
  · rw [if_neg e] at h1; exact .inr ⟨b, o', M, h1, h2, h3⟩

/-- Blocks that are not known yet are of no account; nor is a new one. -/
theorem HR.wider {ρ ρ' : Ren} {h : AHeap} {heap heap' : Array Obj} (hr : HR ρ h heap) (hs : Sub ρ ρ') (hk : ∀ r, r < heap.size → heap'[r]? = heap[r]?) : HR ρ' h heap' := by
  refine ⟨fun b o hb => ?_, fun b b' o o' L L' h1 h2 h3 h4 e => ?_, hr.fresh⟩
  · obtain ⟨L, co, h1, h2, h3⟩ := hr.obj b o hb
    exact ⟨L, co, hs _ _ h1, by rw [hk _ (Array.getElem?_eq_some_iff.1 h2).1]; exact h2, h3.mono hs⟩
  · obtain ⟨M, _, h5, _, _⟩ := hr.obj b o h1
    obtain ⟨M', _, h6, _, _⟩ := hr.obj b' o' h2
    have e1 := hs _ _ h5; rw [h3] at e1; cases e1
    have e2 := hs _ _ h6; rw [h4] at e2; cases e2
    exact hr.inj _ _ _ _ _ _ h1 h2 h5 h6 e
theorem im_wider {ρ ρ' : Ren} {h : AHeap} {heap : Array Obj} (hr : HR ρ h heap) (hs : Sub ρ ρ') {x : Nat} (hi : Im ρ' h x) : Im ρ h x := by
  obtain ⟨b, o, L, h1, h2, h3⟩ := hi
  obtain ⟨M, _, h5, _, _⟩ := hr.obj b o h1
  have e1 := hs _ _ h5; rw [h2] at e1; cases e1
  exact ⟨b, o, L, h1, h5, h3⟩

section
variable {D : Trace} {s : Start} {ops : Array Oper} {listed : Array Bool} {ρ : Ren} {w : World} {T : TyT} {r : Rec} {p i : Nat} {o : Oper}

theorem Heaps.adopt1 (h : Heaps D s ops listed p ρ w) (hD : D.Ok T r ops) (ho : ops[p]? = some o) (hnh : heavyS o.op = false) (hl : ∀ obj, Born D p obj → listed[p]? = some true) : Heaps D s ops listed (p + 1) ρ w := by
  have hp : p < ops.size := (Array.getElem?_eq_some_iff.1 ho).1
  have hheavy : ∀ i o', ops[i]? = some o' → heavyS o'.op = true → (listed[i]? = some true ↔ i < p + 1) := by
    intro i o' ho' hh
    rw [h.heavy i o' ho' hh]
    have : i ≠ p := fun e => by subst e; rw [ho] at ho'; cases ho'; rw [hnh] at hh; cases hh
    omega
  rcases light_step hD ho hnh with hs | ⟨obj, hb⟩
  · refine ⟨by omega, hheavy, by rw [hs]; exact h.rel, ?_, ?_, ?_, h.out, h.sub, h.siz, by rw [hs]; exact h.keep, by rw [hs]; exact h.rows, h.tape, h.os, h.output⟩
    · intro i o' obj hi; rw [hs]; exact h.early i o' obj (by omega)
    · intro i j o₁ o₂ obj obj' L L' hi; exact h.edis i j o₁ o₂ obj obj' L L' (by omega)
    · intro b hb1 hb2 hb3
      rw [hs] at hb1
      refine h.unborn b hb1 hb2 fun i o' obj hi h1 h2 h3 => ?_
      by_cases e : i = p
      · subst e
        have := born_next h3
        rw [hs] at this
        omega
      · exact hb3 i o' obj (by omega) h1 h2 h3
  · have hlp := hl obj hb
    obtain ⟨L, co, e1, e2, e3, e4, e5⟩ := h.early p o obj (Nat.le_refl _) hlp ho hb
    have hb' : D.hh (p + 1) = (D.hh p).alloc obj := hb
    have hnx := born_next hb
    refine ⟨by omega, hheavy, by rw [hb']; exact h.rel.adopt e1 e2 e3 e4, ?_, ?_, ?_, h.out, h.sub, h.siz, ?_, (fun b c L hc hL => by
      obtain ⟨k1, k2⟩ := h.rows b c L hc hL
      have := h.rel.below k1
      exact ⟨by rw [hb', AHeap.get_alloc, if_neg (by omega)]; exact k1, k2⟩), h.tape, h.os, h.output⟩
    · intro i o' obj' hi h1 h2 h3
      obtain ⟨L', co', f1, f2, f3, f4, f5⟩ := h.early i o' obj' (by omega) h1 h2 h3
      refine ⟨L', co', f1, f2, f3, fun him => ?_, f5⟩
      rw [hb'] at him
      rcases im_alloc e1 him with h4 | h4
      · exact h.edis p i o o' obj obj' L L' (Nat.le_refl _) (by omega) hlp h1 ho h2 hb h3 e1 f1 h4.symm
      · exact f4 h4
    · intro i j o₁ o₂ obj₁ obj₂ L₁ L₂ hi; exact h.edis i j o₁ o₂ obj₁ obj₂ L₁ L₂ (by omega)
    · intro b hb1 hb2 hb3
      refine h.unborn b (by omega) hb2 fun i o' obj' hi h1 h2 h3 => ?_
      by_cases e : i = p
      · subst e; omega
      · exact hb3 i o' obj' (by omega) h1 h2 h3
    · intro x hx hni
      obtain ⟨k1, k2⟩ := h.keep x hx hni
      refine ⟨fun him => ?_, k2⟩
      rw [hb'] at him
      rcases im_alloc e1 him with h4 | h4
      · omega
      · exact k1 h4

theorem Heaps.advance (hD : D.Ok T r ops) : ∀ (k p : Nat), p + k ≤ ops.size → Heaps D s ops listed p ρ w → (∀ (j : Nat) (o : Oper), p ≤ j → j < p + k → ops[j]? = some o → heavyS o.op = false ∧ ∀ obj, Born D j obj → listed[j]? = some true) → Heaps D s ops listed (p + k) ρ w := by
  intro k
  induction k with
  | zero => intro p _ h _; exact h
  | succ k ih =>
    intro p hq h hall
    have ho : ops[p]? = some ops[p] := Array.getElem?_eq_getElem (by omega)
    obtain ⟨h1, h2⟩ := hall p _ (Nat.le_refl _) (by omega) ho
    have := h.adopt1 hD ho h1 h2
    rw [show p + (k + 1) = (p + 1) + k by omega] at hq ⊢
    exact ih (p + 1) hq this fun j o hj hj' => hall j o (by omega) (by omega)
theorem Heaps.to (h : Heaps D s ops listed p ρ w) (hD : D.Ok T r ops) {q : Nat} (hq : q ≤ ops.size) (hpq : p ≤ q) (hall : ∀ (j : Nat) (o : Oper), p ≤ j → j < q → ops[j]? = some o → heavyS o.op = false ∧ ∀ obj, Born D j obj → listed[j]? = some true) : Heaps D s ops listed q ρ w := by
  obtain ⟨k, rfl⟩ : ∃ k, q = p + k := ⟨q - p, by omega⟩
  exact Heaps.advance hD k p hq h hall

/-- Nothing of the memory is touched. -/
theorem Heaps.light (h : Heaps D s ops listed p ρ w) (ho : ops[i]? = some o) (hi : i < listed.size) (hnh : heavyS o.op = false) (hs : D.hh (i + 1) = D.hh i) : Heaps D s ops (listed.setIfInBounds i true) p ρ w := by
  have nb : ∀ {obj}, ¬ Born D i obj := fun hb => by have := born_next hb; rw [hs] at this; omega
  refine ⟨h.ple, ?_, h.rel, ?_, ?_, ?_, h.out, h.sub, h.siz, h.keep, h.rows, h.tape, h.os, h.output⟩
  · intro j o' ho' hh
    have : j ≠ i := fun e => by subst e; rw [ho] at ho'; cases ho'; rw [hnh] at hh; cases hh
    rw [listed_set hi, if_neg this]
    exact h.heavy j o' ho' hh
  · intro j o' obj hj h1 h2 h3
    have : j ≠ i := fun e => by subst e; exact nb h3
    rw [listed_set hi, if_neg this] at h1
    exact h.early j o' obj hj h1 h2 h3
  · intro j k o₁ o₂ obj₁ obj₂ L₁ L₂ hj hjk h1 h2 h3 h4 h5 h6
    have e1 : j ≠ i := fun e => by subst e; exact nb h5
    have e2 : k ≠ i := fun e => by subst e; exact nb h6
    rw [listed_set hi, if_neg e1] at h1
    rw [listed_set hi, if_neg e2] at h2
    exact h.edis j k o₁ o₂ obj₁ obj₂ L₁ L₂ hj hjk h1 h2 h3 h4 h5 h6
  · intro b hb1 hb2 hb3
    refine h.unborn b hb1 hb2 fun j o' obj hj h1 h2 h3 => hb3 j o' obj hj ?_ h2 h3
    rw [listed_set hi]; split
    · rfl
    · exact h1

/-- The numbers given to two blocks differ. -/
theorem born_lt (hD : D.Ok T r ops) {i j : Nat} {obj : AObj} (hij : i < j) (hj : j ≤ ops.size) (hb : Born D i obj) : (D.hh i).next < (D.hh j).next := by
  have := hh_mono hD (i := i + 1) (j := j) (by omega) hj
  have := born_next hb
  omega

theorem Heaps.fresh (h : Heaps D s ops listed p ρ w) (hD : D.Ok T r ops) (ho : ops[i]? = some o) (hpi : p ≤ i) (hi : listed[i]? = some false) {b : Nat} (h1 : (D.hh i).next ≤ b) (h2 : b < (D.hh (i + 1)).next) : ρ b = none := by
  have hin : i < ops.size := (Array.getElem?_eq_some_iff.1 ho).1
  have m1 := hh_mono hD hpi (by omega)
  have m2 := hh_mono hD (i := i + 1) (j := ops.size) (by omega) (Nat.le_refl _)
  refine h.unborn b (by omega) (by omega) fun j o' obj hj hl ho' hb e => ?_
  have hjn : j < ops.size := (Array.getElem?_eq_some_iff.1 ho').1
  rcases Nat.lt_trichotomy j i with h3 | h3 | h3
  · have := born_lt hD h3 (by omega) hb; omega
  · subst h3; rw [hi] at hl; cases hl
  · have := hh_mono hD (i := i + 1) (j := j) (by omega) (by omega); omega

/-- A block is laid. -/
theorem Heaps.alloc (h : Heaps D s ops listed p ρ w) (hD : D.Ok T r ops) (ho : ops[i]? = some o) (hi : listed[i]? = some false) (hpi : p ≤ i) (hnh : heavyS o.op = false) {obj : AObj} (hb : Born D i obj) {co : Obj}
    (hor : OR ρ ⟨w.heap.size, 0, 0⟩ obj co) : Heaps D s ops (listed.setIfInBounds i true) p (upd ρ (D.hh i).next ⟨w.heap.size, 0, 0⟩) { w with heap := w.heap.push co } := by
  have hlt : i < listed.size := (Array.getElem?_eq_some_iff.1 hi).1
  have hin : i < ops.size := (Array.getElem?_eq_some_iff.1 ho).1
  have hnx := born_next hb
  have hfree : ρ (D.hh i).next = none := h.fresh hD ho hpi hi (Nat.le_refl _) (by omega)
  have hsub : Sub ρ (upd ρ (D.hh i).next ⟨w.heap.size, 0, 0⟩) := upd_sub _ hfree
  have hpush : ∀ x, x < w.heap.size → (w.heap.push co)[x]? = w.heap[x]? := fun x hx => by rw [Array.getElem?_push_lt hx, Array.getElem?_eq_getElem hx]
  have m1 := hh_mono hD hpi (by omega)
  have m0 := hh_mono hD (Nat.zero_le i) (by omega)
  have m2 := hh_mono hD (i := i + 1) (j := ops.size) (by omega) (Nat.le_refl _)
  have imlt : ∀ {x}, Im ρ (D.hh p) x → x < w.heap.size := fun ⟨b, o', L, h1, h2, h3⟩ => h3 ▸ h.rel.lt h1 h2
  have old : ∀ {j o' obj'}, p ≤ j → j ≠ i → listed[j]? = some true → ops[j]? = some o' → Born D j obj' → ∀ {L}, (upd ρ (D.hh i).next ⟨w.heap.size, 0, 0⟩) (D.hh j).next = some L → ρ (D.hh j).next = some L ∧ L.r < w.heap.size := by
    intro j o' obj' hj hne hl ho' hb' L hL
    have hjn : j < ops.size := (Array.getElem?_eq_some_iff.1 ho').1
    have : (D.hh j).next ≠ (D.hh i).next := by
      rcases Nat.lt_or_gt_of_ne hne with h3 | h3
      · have := born_lt hD h3 (by omega) hb'; omega
      · have := born_lt hD h3 (by omega) hb; omega
    rw [upd_ne _ _ this] at hL
    obtain ⟨L', co', f1, f2, _⟩ := h.early j o' obj' hj hl ho' hb'
    rw [f1] at hL; cases hL
    exact ⟨f1, (Array.getElem?_eq_some_iff.1 f2).1⟩
  refine ⟨h.ple, ?_, h.rel.wider hsub hpush, ?_, ?_, ?_, ?_, fun b L e => hsub _ _ (h.sub b L e), by simp; have := h.siz; omega, ?_, (fun b c L hc hL => by
    obtain ⟨k1, k2⟩ := h.rows b c L hc hL
    exact ⟨k1, by rw [hpush _ (h.rel.lt k1 (h.sub b L hL))]; exact k2⟩), h.tape, h.os, h.output⟩
  · intro j o' ho' hh
    have : j ≠ i := fun e => by subst e; rw [ho] at ho'; cases ho'; rw [hnh] at hh; cases hh
    rw [listed_set hlt, if_neg this]
    exact h.heavy j o' ho' hh
  · intro j o' obj' hj h1 h2 h3
    by_cases e : j = i
    · subst e
      have : obj' = obj := by
        have e1 : (D.hh j).alloc obj = (D.hh j).alloc obj' := (hb : D.hh (j + 1) = _).symm.trans h3
        have e2 := congrArg (fun H => AHeap.get H (D.hh j).next) e1
        simp only [AHeap.get_alloc, if_true, Option.some.injEq] at e2
        exact e2.symm
      subst this
      refine ⟨_, co, upd_same _ _ _, by simp, hor.mono hsub, fun him => ?_, h.siz⟩
      have := imlt (im_wider h.rel hsub him)
      simp at this
    · rw [listed_set hlt, if_neg e] at h1
      obtain ⟨L', co', f1, f2, f3, f4, f5⟩ := h.early j o' obj' hj h1 h2 h3
      exact ⟨L', co', hsub _ _ f1, by rw [hpush _ (Array.getElem?_eq_some_iff.1 f2).1]; exact f2, f3.mono hsub, fun him => f4 (im_wider h.rel hsub him), f5⟩
  · intro j k o₁ o₂ obj₁ obj₂ L₁ L₂ hj hjk h1 h2 h3 h4 h5 h6 h7 h8
    rw [listed_set hlt] at h1 h2
    by_cases e1 : j = i
    · subst e1
      rw [upd_same] at h7; cases h7
      rw [if_neg (by omega)] at h2
      have := (old (by omega) (by omega) h2 h4 h6 h8).2
      simp; omega
    · rw [if_neg e1] at h1
      have a1 := old hj e1 h1 h3 h5 h7
      by_cases e2 : k = i
      · subst e2
        rw [upd_same] at h8; cases h8
        simp; omega
      · rw [if_neg e2] at h2
        exact h.edis j k o₁ o₂ obj₁ obj₂ L₁ L₂ hj hjk h1 h2 h3 h4 h5 h6 a1.1 (old (by omega) e2 h2 h4 h6 h8).1
  · intro b hb1 hb2 hb3
    have hne : b ≠ (D.hh i).next := hb3 i o obj hpi (by rw [listed_set hlt, if_pos rfl]) ho hb
    rw [upd_ne _ _ hne]
    refine h.unborn b hb1 hb2 fun j o' obj' hj h1 h2 h3 => hb3 j o' obj' hj ?_ h2 h3
    rw [listed_set hlt]; split
    · rfl
    · exact h1
  · intro b hb'
    rw [upd_ne _ _ (by omega)]
    exact h.out b hb'
  · intro x hx hni
    obtain ⟨k1, k2⟩ := h.keep x hx hni
    have := h.siz
    exact ⟨fun him => k1 (im_wider h.rel hsub him), by rw [← k2]; exact hpush x (by omega)⟩

/-- A heavy operation that was due: all that stands ahead of it in the text, and matters, has been done. -/
theorem Heaps.heavyStep {ρ' : Ren} {w' : World} (h : Heaps D s ops listed i ρ w) (hD : D.Ok T r ops) (ho : ops[i]? = some o) (hi : listed[i]? = some false) (hev : Ev ρ (D.hh i) w ρ' (D.hh (i + 1)) w') :
    Heaps D s ops (listed.setIfInBounds i true) (i + 1) ρ' w' := by
  have hlt : i < listed.size := (Array.getElem?_eq_some_iff.1 hi).1
  have hin : i < ops.size := (Array.getElem?_eq_some_iff.1 ho).1
  have m0 := hh_mono hD (Nat.zero_le i) (by omega)
  have m2 := hh_mono hD (i := i + 1) (j := ops.size) (by omega) (Nat.le_refl _)
  have m1 := hev.next
  have lst : ∀ {j}, i + 1 ≤ j → (listed.setIfInBounds i true)[j]? = some true → listed[j]? = some true := fun {j} hj hl => by
    rw [listed_set hlt, if_neg (by omega)] at hl; exact hl
  refine ⟨by omega, ?_, hev.rel, ?_, ?_, ?_, ?_, fun b L e => hev.sub _ _ (h.sub b L e), Nat.le_trans h.siz hev.size, ?_, (fun b c L hc hL => by
    obtain ⟨k1, k2⟩ := h.rows b c L hc hL
    obtain ⟨k3, k4⟩ := hev.rows b c L k1 (h.sub b L hL)
    exact ⟨k3, k4.trans k2⟩), hev.tape.trans h.tape, hev.os.trans h.os, hev.output.trans h.output⟩
  · intro j o' ho' hh
    rw [listed_set hlt]
    by_cases e : j = i
    · subst e; simp
    · rw [if_neg e, h.heavy j o' ho' hh]; omega
  · intro j o' obj hj h1 h2 h3
    obtain ⟨L, co, f1, f2, f3, f4, f5⟩ := h.early j o' obj (by omega) (lst hj h1) h2 h3
    obtain ⟨k1, k2⟩ := hev.keep L.r (Array.getElem?_eq_some_iff.1 f2).1 f4
    exact ⟨L, co, hev.sub _ _ f1, by rw [k2]; exact f2, f3.mono hev.sub, k1, f5⟩
  · intro j k o₁ o₂ obj₁ obj₂ L₁ L₂ hj hjk h1 h2 h3 h4 h5 h6 h7 h8
    obtain ⟨M₁, _, f1, _⟩ := h.early j o₁ obj₁ (by omega) (lst hj h1) h3 h5
    obtain ⟨M₂, _, g1, _⟩ := h.early k o₂ obj₂ (by omega) (lst (by omega) h2) h4 h6
    have e1 := hev.sub _ _ f1; rw [h7] at e1; cases e1
    have e2 := hev.sub _ _ g1; rw [h8] at e2; cases e2
    exact h.edis j k o₁ o₂ obj₁ obj₂ L₁ L₂ (by omega) hjk (lst hj h1) (lst (by omega) h2) h3 h4 h5 h6 f1 g1
  · intro b hb1 hb2 hb3
    rw [hev.out b (.inr hb1)]
    refine h.unborn b (by omega) hb2 fun j o' obj hj h1 h2 h3 => ?_
    by_cases e : j = i
    · subst e; rw [hi] at h1; cases h1
    · exact hb3 j o' obj (by omega) (by rw [listed_set hlt, if_neg e]; exact h1) h2 h3
  · intro b hb
    rw [hev.out b (by omega)]
    exact h.out b hb
  · intro x hx hni
    obtain ⟨k1, k2⟩ := h.keep x hx hni
    obtain ⟨k3, k4⟩ := hev.keep x (by have := h.siz; omega) k1
    exact ⟨k3, k4.trans k2⟩
end
end Nt

namespace Nt
open Go

def Rest (ops : Array Oper) (p : Nat) : Prop := p = 0 ∨ ∃ o', 0 < p ∧ ops[p - 1]? = some o' ∧ heavyS o'.op = true

theorem heavySx_mem {ops : Array Oper} {x : Nat} : x ∈ heavySx ops.toList 0 ↔ ∃ o, ops[x]? = some o ∧ heavyS o.op = true := by
  rw [heavySx_eq .leaf, heavyIx_mem]
  constructor
  · rintro ⟨j, o, h1, h2, h3⟩
    rw [isHeavy_S] at h3
    rw [Nat.zero_add] at h1; subst h1
    exact ⟨o, by simpa using h2, h3⟩
  · rintro ⟨o, h1, h2⟩
    exact ⟨x, o, by omega, by simpa using h1, by rw [isHeavy_S]; exact h2⟩

section
variable {D : Trace} {s : Start} {ops : Array Oper} {listed : Array Bool} {ρ : Ren} {a : Act} {w : World} {T : TyT} {r : Rec} {p i : Nat} {o : Oper}

theorem count_bounds (hS : Slots D s ops listed ρ a) (hH : Heaps D s ops listed p ρ w) (F : DrawFacts ops) (ho : ops[i]? = some o) (hi : listed[i]? = some false) (he : ∀ e ∈ o.after, Region.binds .any e = true → listed[e.on]? = some true) :
    loOf (masks ops.toList 0 .leaf) (heavySx ops.toList 0) i ≤ count (below p) (heavySx ops.toList 0) ∧ count (below p) (heavySx ops.toList 0) ≤ hiOf (masks ops.toList 0 .leaf) (heavySx ops.toList 0) i := by
  constructor
  · refine count_le fun x hx hp => ?_
    obtain ⟨ox, h1, h2⟩ := heavySx_mem.1 hx
    exact below_true.2 ((hH.heavy x ox h1 h2).1 (ready_pre hS.shut ho he hp))
  · refine count_le fun x hx hp => ?_
    obtain ⟨ox, h1, h2⟩ := heavySx_mem.1 hx
    have hl := (hH.heavy x ox h1 h2).2 (below_true.1 hp)
    cases hb : hasBit (maskAt (masks ops.toList 0 .leaf) x) i with
    | false => rfl
    | true =>
      have := shut_pre hS.shut hl hb
      rw [hi] at this; cases this
theorem count_text (F : DrawFacts ops) (i : Nat) :
    loOf (masks ops.toList 0 .leaf) (heavySx ops.toList 0) i ≤ count (below i) (heavySx ops.toList 0) ∧ count (below i) (heavySx ops.toList 0) ≤ hiOf (masks ops.toList 0 .leaf) (heavySx ops.toList 0) i := by
  constructor
  · exact count_le fun x _ hp => below_true.2 (F.back i x hp)
  · refine count_le fun x _ hp => ?_
    cases hb : hasBit (maskAt (masks ops.toList 0 .leaf) x) i with
    | false => rfl
    | true =>
      have := F.back x i hb
      have := below_true.1 hp
      omega

theorem heavy_ahead (hS : Slots D s ops listed ρ a) (hH : Heaps D s ops listed p ρ w) (hD : D.Ok T r ops) (F : DrawFacts ops) (ho : ops[i]? = some o) (hi : listed[i]? = some false)
    (he : ∀ e ∈ o.after, Region.binds .any e = true → listed[e.on]? = some true) (hh : heavyS o.op = true) : Heaps D s ops listed i ρ w := by
  have hin : i < ops.size := (Array.getElem?_eq_some_iff.1 ho).1
  have hpi : p ≤ i := by
    rcases Nat.lt_or_ge i p with h | h
    · have := (hH.heavy i o ho hh).2 h
      rw [hi] at this; cases this
    · exact h
  refine hH.to hD (by omega) hpi fun j oj hj hji hoj => ?_
  have hc := F.cross j i oj o hji hoj ho
  refine ⟨?_, fun obj hb => ?_⟩
  · cases hq : heavyS oj.op with
    | false => rfl
    | true =>
      exfalso
      rcases hc with hp | hc
      · have := (hH.heavy j oj hoj hq).1 (ready_pre hS.shut ho he hp); omega
      · have := ((mayCross_spec hc).2.2.1 hh).1
        rw [hq] at this; cases this
  · rcases hc with hp | hc
    · exact ready_pre hS.shut ho he hp
    · obtain ⟨h1, h2⟩ := (mayCross_spec hc).2.2.1 hh
      rw [(born_alloc hD hoj h1 hb).1] at h2; cases h2

theorem tight_ahead (hS : Slots D s ops listed ρ a) (hH : Heaps D s ops listed p ρ w) (hrest : Rest ops p) (hD : D.Ok T r ops) (F : DrawFacts ops) (ho : ops[i]? = some o) (hi : listed[i]? = some false)
    (he : ∀ e ∈ o.after, Region.binds .any e = true → listed[e.on]? = some true) (hh : heavyS o.op = false) (hr : readS o.op = true)
    (ht : loOf (masks ops.toList 0 .leaf) (heavySx ops.toList 0) i = hiOf (masks ops.toList 0 .leaf) (heavySx ops.toList 0) i) : Heaps D s ops listed i ρ w := by
  have hin : i < ops.size := (Array.getElem?_eq_some_iff.1 ho).1
  have b1 := count_bounds hS hH F ho hi he
  have b2 := count_text F i
  have hpi : p ≤ i := by
    rcases Nat.lt_or_ge i p with h | h
    · exfalso
      rcases hrest with h0 | ⟨o', h0, h1, h2⟩
      · omega
      · have hne : i ≠ p - 1 := fun e => by rw [← e, ho] at h1; cases h1; rw [hh] at h2; cases h2
        have : count (below i) (heavySx ops.toList 0) < count (below p) (heavySx ops.toList 0) :=
          count_lt (fun x _ hx => below_true.2 (by have := below_true.1 hx; omega)) ⟨p - 1, heavySx_mem.2 ⟨o', h1, h2⟩, below_false.2 (by omega), below_true.2 (by omega)⟩
        omega
    · exact h
  refine hH.to hD (by omega) hpi fun j oj hj hji hoj => ?_
  have hnh : heavyS oj.op = false := by
    cases hq : heavyS oj.op with
    | false => rfl
    | true =>
      have : count (below p) (heavySx ops.toList 0) < count (below i) (heavySx ops.toList 0) :=
        count_lt (fun x _ hx => below_true.2 (by have := below_true.1 hx; omega)) ⟨j, heavySx_mem.2 ⟨oj, hoj, hq⟩, below_false.2 hj, below_true.2 hji⟩
      omega
  refine ⟨hnh, fun obj hb => ?_⟩
  rcases F.cross j i oj o hji hoj ho with hp | hc
  · exact ready_pre hS.shut ho he hp
  · exact absurd ht ((mayCross_spec hc).2.2.2 (born_alloc hD hoj hnh hb).1 hr)

theorem alloc_ahead (hS : Slots D s ops listed ρ a) (hH : Heaps D s ops listed p ρ w) (hrest : Rest ops p) (F : DrawFacts ops) (ho : ops[i]? = some o) (hi : listed[i]? = some false)
    (hh : heavyS o.op = false) (ha : allocS o.op = true) : p ≤ i := by
  rcases Nat.lt_or_ge i p with h | h
  · exfalso
    rcases hrest with h0 | ⟨o', h0, h1, h2⟩
    · omega
    · have hne : i ≠ p - 1 := fun e => by rw [← e, ho] at h1; cases h1; rw [hh] at h2; cases h2
      have hl := (hH.heavy (p - 1) o' h1 h2).2 (by omega)
      rcases F.cross i (p - 1) o o' (by omega) ho h1 with hp | hc
      · have := shut_pre hS.shut hl hp
        rw [hi] at this; cases this
      · have := ((mayCross_spec hc).2.2.1 h2).2
        rw [ha] at this; cases this
  · exact h

/-- What holds under way. -/
def Way (D : Trace) (s : Start) (ops : Array Oper) (listed : Array Bool) (a : Act) (w : World) : Prop := ∃ p ρ, Slots D s ops listed ρ a ∧ Heaps D s ops listed p ρ w ∧ Rest ops p

theorem way_step {P : Program} (hT : TabOK T P) {Gs : List Nat} (hr : RecOk P Gs r) {ro : Option Nat} {N : Nat} (hops : ∀ o ∈ ops.toList, operOk Gs N ops.toList o = true)
    (hD : D.Ok T r ops) (F : DrawFacts ops) (hN : N ≤ s.a.tmps.size) (hg : GOk Gs s.ρ) (h : Way D s ops listed a w) (hi : i ∈ Region.ready .any ops listed) :
    OpK P ro ops i a w fun v w' => Way D s ops (listed.setIfInBounds i true) (a.put ((ops[i]?).bind (·.dst)) v) w' := by
  obtain ⟨p, ρ, hS, hH, hrest⟩ := h
  obtain ⟨o, ho, hl, he⟩ := ready_spec hS.size hi
  have hin : i < ops.size := (Array.getElem?_eq_some_iff.1 ho).1
  have hlt : i < listed.size := (Array.getElem?_eq_some_iff.1 hl).1
  have hmem : o ∈ ops.toList := by have := Array.mem_of_getElem? ho; simpa using this
  have hok := hops o hmem
  have hgr : GOk Gs ρ := hg.mono hH.sub
  have henv := envR_ok hS F hD ho hl he hok hN hgr
  have hwt := guardR_ok hS F hD ho hl he hok hN
  have hds := (hD.step i o ho).1
  have hb : (ops[i]?).bind (·.dst) = o.dst := by rw [ho]; rfl
  rw [hb]
  unfold DS at hds
  cases hh : heavyS o.op with
  | true =>
    have hH' := heavy_ahead hS hH hD F ho hl he hh
    have hrest' : Rest ops (i + 1) := .inr ⟨o, by omega, by simpa using ho, hh⟩
    cases hw : wantsO ops.toList o (D.ts i) with
    | false =>
      rw [hw, bcond_false] at hds
      rw [hw] at hwt
      obtain ⟨e1, e2⟩ := Prod.mk.inj (Option.some.inj hds)
      refine opk_skip (by rw [ho]; simpa using hwt) ⟨i + 1, ρ, hS.step F ho hl he (Sub.refl _) (by rw [← e1]; exact VR.undef _), hH'.heavyStep hD ho hl (by rw [← e2]; exact Ev.refl hH'.rel), hrest'⟩
    | true =>
      rw [hw, bcond_true] at hds
      rw [hw] at hwt
      refine (op_ok hT hr ho hwt henv hH'.rel hgr hds fun b h1 h2 => hH'.fresh hD ho (Nat.le_refl _) hl h1 h2).mono fun v' w' hc => ?_
      obtain ⟨ρ', hv, hev⟩ := hc
      exact ⟨i + 1, ρ', hS.step F ho hl he hev.sub hv, hH'.heavyStep hD ho hl hev, hrest'⟩
  | false =>
    cases hw : wantsO ops.toList o (D.ts i) with
    | false =>
      rw [hw, bcond_false] at hds
      rw [hw] at hwt
      obtain ⟨e1, e2⟩ := Prod.mk.inj (Option.some.inj hds)
      exact opk_skip (by rw [ho]; simpa using hwt) ⟨p, ρ, hS.step F ho hl he (Sub.refl _) (by rw [← e1]; exact VR.undef _), hH.light ho hlt hh e2.symm, hrest⟩
    | true =>
      rw [hw, bcond_true] at hds
      rw [hw] at hwt
      have hnh : isHeavy (opD o.op T) = false := by rw [isHeavy_S]; exact hh
      have hnd : ∀ c, o.op ≠ .defer c := opD_notDefer (T := T) fun e => by rw [e] at hds; cases hds
      unfold stepOp stepK at hds
      cases hd : opD o.op T with
      | pure f =>
        rw [hd] at hds
        cases e : f T (envOf (D.ts i)) with
        | none => simp [e] at hds
        | some u =>
          simp [e] at hds
          obtain ⟨e1, e2⟩ := hds
          obtain ⟨v', h1, h2⟩ := pure_ok hT henv hd e w
          exact opk_run ho hwt hnd (.inl h1) ⟨p, ρ, hS.step F ho hl he (Sub.refl _) (by rw [← e1]; exact h2), hH.light ho hlt hh e2.symm, hrest⟩
      | read f =>
        have hrd : readS o.op = true := isRead_S (T := T) (by rw [hd]; rfl)
        rw [hd] at hds
        cases e : f T (envOf (D.ts i)) (D.hh i) with
        | none => simp [e] at hds
        | some u =>
          simp [e] at hds
          obtain ⟨e1, e2⟩ := hds
          have hS' : ∀ {v'}, VR ρ (D.vs i) v' → Way D s ops (listed.setIfInBounds i true) (a.put o.dst v') w := fun hv => ⟨p, ρ, hS.step F ho hl he (Sub.refl _) hv, hH.light ho hlt hh e2.symm, hrest⟩
          by_cases ht : loOf (masks ops.toList 0 .leaf) (heavySx ops.toList 0) i = hiOf (masks ops.toList 0 .leaf) (heavySx ops.toList 0) i
          · have hH' := tight_ahead hS hH hrest hD F ho hl he hh hrd ht
            obtain ⟨v', h1, h2⟩ := read_ok hT henv hd hH'.rel e
            exact opk_run ho hwt hnd (.inl h1) (hS' (by rw [← e1]; exact h2))
          · have hb := count_bounds hS hH F ho hl he
            have hp := hD.pend i o f p ho hw hd ht hrest hb.1 hb.2
            obtain ⟨v', h1, h2⟩ := read_ok hT henv hd hH.rel hp
            exact opk_run ho hwt hnd (.inl h1) (hS' h2)
      | alloc f =>
        have has : allocS o.op = true := opD_alloc hd
        have hpi := alloc_ahead hS hH hrest F ho hl hh has
        rw [hd] at hds
        cases e : f T (envOf (D.ts i)) with
        | none => simp [e] at hds
        | some q =>
          simp [e] at hds
          obtain ⟨e1, e2⟩ := hds
          obtain ⟨co, v', h1, h2, h3⟩ := alloc_ok hT henv hd (obj := q.1) (mk := q.2) e w
          have hborn : Born D i q.1 := e2.symm
          have hfree : ρ (D.hh i).next = none := hH.fresh hD ho hpi hl (Nat.le_refl _) (by have := born_next hborn; omega)
          refine opk_run ho hwt hnd (.inl h1) ⟨p, _, hS.step F ho hl he (upd_sub _ hfree) ?_, hH.alloc hD ho hl hpi hh hborn h2, hrest⟩
          rw [← e1]
          exact h3 _ _ (upd_same _ _ _)
      | heavy f => rw [hd] at hnh; cases hnh
      | call f args => rw [hd] at hnh; cases hnh
      | bad => rw [hd] at hds; cases hds

theorem way_end (hD : D.Ok T r ops) (F : DrawFacts ops) (h : Way D s ops listed a w) (hr : Region.ready .any ops listed = []) :
    ∃ ρ', Ev s.ρ (D.hh 0) s.w ρ' (D.hh ops.size) w ∧ TRel ρ' s.a.tmps.size (D.ts ops.size) a.tmps ∧ a.defers = s.a.defers := by
  obtain ⟨p, ρ, hS, hH, hrest⟩ := h
  have hall : ∀ i, i < ops.size → listed[i]? = some true := by
    intro i
    induction i using Nat.strongRecOn with
    | _ i ih =>
      intro hi
      have hli : i < listed.size := by rw [hS.size]; exact hi
      have ho : ops[i]? = some ops[i] := Array.getElem?_eq_getElem hi
      cases hq : listed[i]'hli with
      | true => rw [Array.getElem?_eq_getElem hli, hq]
      | false =>
        exfalso
        have hm : i ∈ Region.ready .any ops listed := by
          refine List.mem_filter.2 ⟨List.mem_range.2 hi, ?_⟩
          rw [Bool.and_eq_true]
          refine ⟨by rw [Array.getD_eq_getD_getElem?, Array.getElem?_eq_getElem hli, hq]; rfl, ?_⟩
          rw [ho, Option.map_some, Option.getD_some, Array.all_eq_true]
          intro k hk
          cases hb : Region.binds .any ops[i].after[k] with
          | false => rfl
          | true =>
            have hlt := F.edges i _ ho ops[i].after[k] (Array.getElem_mem hk) hb
            have := ih _ hlt (by omega)
            rw [Array.getD_eq_getD_getElem?, this]; rfl
        rw [hr] at hm
        cases hm
  have hH' : Heaps D s ops listed ops.size ρ w := hH.to hD (Nat.le_refl _) hH.ple fun j oj hj hjn hoj => by
    refine ⟨?_, fun _ _ => hall j hjn⟩
    cases hq : heavyS oj.op with
    | false => rfl
    | true => have := (hH.heavy j oj hoj hq).1 (hall j hjn); omega
  refine ⟨ρ, ⟨hh_mono hD (Nat.zero_le _) (Nat.le_refl _), hH'.sub, hH'.out, hH'.rel, hH'.siz, hH'.keep, hH'.rows, hH'.tape, hH'.os, hH'.output⟩, ⟨hS.tsz, fun d hd => ?_⟩, hS.dfr⟩
  by_cases hw : ∃ (j : Nat) (o' : Oper), ops[j]? = some o' ∧ o'.dst = some d
  · obtain ⟨j, o', ho', hdst⟩ := hw
    have hj : j < ops.size := (Array.getElem?_eq_some_iff.1 ho').1
    rw [ts_some hD F ho' hdst (Nat.le_refl _) hj]
    exact hS.slot j o' d (hall j hj) ho' hdst hd
  · rw [ts_none hD (Nat.le_refl _) fun j o' _ ho' e => hw ⟨j, o', ho', e⟩]
    exact hS.old d hd fun j o' _ ho' e => hw ⟨j, o', ho', e⟩
end

theorem draw_ok {T : TyT} {P : Program} (hT : TabOK T P) {Gs : List Nat} {r : Rec} (hr : RecOk P Gs r) {ro : Option Nat} {ops : Array Oper} {N : Nat} (hops : ∀ o ∈ ops.toList, operOk Gs N ops.toList o = true)
    (hdr : drawOk ops.toList = true) {t t' : Tr Value} {h h' : AHeap} (e : dDraw ops.toList T r t h = .norm t' h') {ρ : Ren} {a : Act} {w : World}
    (ht : TRel ρ a.tmps.size t a.tmps) (hN : N ≤ a.tmps.size) (hh : HR ρ h w.heap) (hf : Free ρ h.next h'.next) (hg : GOk Gs ρ) {Q : Exit → Act → World → Prop} (hQ : ∀ a' w', Left ρ h w a t' h' a' w' → Q .normal a' w') (n : Nat) :
    GoesR P ro ops Q (Region.linearise .any ops n) a { w with drawn := w.drawn + 1 } := by
  obtain ⟨D, hD, e1, e2, e3, e4⟩ := draw_trace e
  have F := drawOk_facts hdr
  have start : Way D ⟨ρ, a, { w with drawn := w.drawn + 1 }⟩ ops (Array.replicate ops.size false) a { w with drawn := w.drawn + 1 } := by
    have none : ∀ i, (Array.replicate ops.size false)[i]? ≠ some true := fun i h => by
      rw [Array.getElem?_replicate] at h
      split at h <;> cases h
    refine ⟨0, ρ, ⟨by simp, fun i o h => absurd h (none i), rfl, rfl, fun i o d h => absurd h (none i), fun d hd _ => ?_⟩, ⟨Nat.zero_le _, fun i o _ _ => ⟨fun h => absurd h (none i), fun h => absurd h (Nat.not_lt_zero _)⟩, ?_, fun i o obj _ h => absurd h (none i),
      fun i j o o' obj obj' L L' _ _ h => absurd h (none i), fun b h1 h2 _ => ?_, fun _ _ => rfl, Sub.refl _, Nat.le_refl _, fun x _ hx => ⟨hx, rfl⟩, fun _ _ _ hx _ => ⟨hx, rfl⟩, rfl, rfl, rfl⟩, .inl rfl⟩
    · rw [e1]; exact ht.2 d hd
    · rw [e2]; exact hh
    · rw [e2] at h1; rw [e4] at h2; exact hf b h1 h2
  unfold Region.linearise
  refine goesR_linear (fun listed a w' => Way D ⟨ρ, _, { w with drawn := w.drawn + 1 }⟩ ops listed a w') (fun listed a₁ w₁ hI i hi => way_step hT hr hops hD F hN hg hI hi) (fun listed a₁ w₁ hI hnil => ?_) _ _ _ _ _ start (by simp [List.count_replicate])
  obtain ⟨ρ', h1, h2, h3⟩ := way_end hD F hI hnil
  rw [e2, e4] at h1
  rw [e3] at h2
  exact hQ _ _ ⟨⟨ρ', (Ev.drawn hh (w.drawn + 1)).trans h1, h2⟩, h3⟩
end Nt
