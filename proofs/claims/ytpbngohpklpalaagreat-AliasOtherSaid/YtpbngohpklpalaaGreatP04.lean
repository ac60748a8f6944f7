/- A part of the proof: an abstract machine for the program's code and what each of its functions comes to there. No conditions. -/
import Derived.Test.YtpbngohpklpalaaGreatP03
import Derived.Scope
import Derived.IntWalk
import Derived.ProofKit

set_option linter.unusedSimpArgs false
set_option linter.unusedVariables false

/- Code and calls: what the abstract machine comes to, the model comes to. -/
namespace Go.LS
def exitOf : AExit → Exit
 | .normal => .normal
 | .exit id => .exit id
 | .goto l => .goto l
 | .ret => .ret
def noLabels : Code → Bool
 | .seq a b => noLabels a && noLabels b
 | .label _ => false
 | _ => true
theorem noLabels_spec : ∀ {c : Code} {l : Nat}, noLabels c = true → findLabel c l = none := by
 intro c
 induction c with
 | seq a b iha ihb =>
  intro l h
  simp only [noLabels, Bool.and_eq_true] at h
  simp [findLabel, iha h.1, ihb h.2]
 | label l0 => intro l h; cases h
 | _ => intro l h; rfl
def chkC (P : Program) (N : Nat) : Code → AC → Bool
 | .skip, .skip => true
 | .region _ ops false, .ops l => chkOps P N ops 0 l
 | .region _ ops true, .dops l pre => chkDops P N ops ops.toList l pre
 | .region _ ops true, .tops l pre => chkDops P N ops ops.toList l pre && ordOK l pre
 | .seq a b, .seq a' b' => chkC P N a a' && chkC P N b b'
 | .seq (.region _ pre false) (.block b0 (.loop L)), .rangeM pre' m dIt dNx dOk dEn body => chkM P N pre b0 L pre' m dIt dNx dOk dEn body
 | .cond c a b, .cond c' a' b' => okOpd c c' && chkC P N a a' && chkC P N b b'
 | .block id c, .block id' c' => id == id' && chkC P N c c'
 | .loop c, .loop c' => chkC P N c c'
 | .exit id, .exit id' => id == id'
 | .scope c, .scope b cur => chkC P N c b && chkC P N c cur
 | .label l, .label l' => l == l'
 | .goto l, .goto l' => l == l'
 | .ret, .ret => true
 | c, .bad => noLabels c
 | _, _ => false
theorem chkC_rangeM {P : Program} {N : Nat} {c : Code} {pre' : List AOp} {m : Opd} {dIt dNx dOk dEn : Nat} {body : List AOp} (h : chkC P N c (.rangeM pre' m dIt dNx dOk dEn body) = true) :
  ∃ i pre b0 L, c = .seq (.region i pre false) (.block b0 (.loop L)) ∧ chkM P N pre b0 L pre' m dIt dNx dOk dEn body = true := by
 unfold chkC at h
 split at h
 all_goals first
  | (rename_i h1; cases h1; done)
  | (rename_i h1 h2; cases h2; done)
  | (rename_i i pre b0 L _ _ _ _ _ _ _ he; cases he; exact ⟨i, pre, b0, L, rfl, h⟩)
  | cases h
  | skip
theorem findL_none {P : Program} {N : Nat} : ∀ {c : Code} {ac : AC} {l : Nat}, chkC P N c ac = true → findL ac l = none → findLabel c l = none := by
 intro c
 induction c with
 | seq a b iha ihb =>
  intro ac l h hf
  cases ac with
  | seq a' b' =>
   simp only [chkC, Bool.and_eq_true] at h
   simp only [findL] at hf
   split at hf
   ·cases hf
   ·rename_i hr
    simp [findLabel, iha h.1 hr, ihb h.2 hf]
  | bad => exact noLabels_spec (by simpa [chkC] using h)
  | rangeM pre' m dIt dNx dOk dEn body =>
   obtain ⟨i, pre, b0, L, he, _⟩ := chkC_rangeM h
   rw [he]
   exact noLabels_spec rfl
  | _ => simp [chkC] at h
 | label l0 =>
  intro ac l h hf
  cases ac with
  | label l' =>
   simp only [chkC, beq_iff_eq] at h
   subst h
   simp only [findL] at hf
   split at hf
   ·cases hf
   ·rename_i he
    simp only [findLabel]
    rw [if_neg he]
  | bad => exact noLabels_spec (by simpa [chkC] using h)
  | _ => simp [chkC] at h
 | _ => intro ac l h hf; rfl
theorem findL_spec {P : Program} {N : Nat} : ∀ {c : Code} {ac : AC} {l : Nat}, chkC P N c ac = true →
  (∀ rest', findL ac l = some rest' → ∃ rest, findLabel c l = some rest ∧ chkC P N rest rest' = true) := by
 intro c
 induction c with
 | seq a b iha ihb =>
  intro ac l h rest' hf
  cases ac with
  | seq a' b' =>
   simp only [chkC, Bool.and_eq_true] at h
   simp only [findL] at hf
   split at hf
   ·rename_i r hr
    injection hf with hf
    subst hf
    obtain ⟨r0, h1, h2⟩ := iha h.1 _ hr
    exact ⟨.seq r0 b, by simp [findLabel, h1], by simp [chkC, h2, h.2]⟩
   ·rename_i hr
    obtain ⟨r0, h1, h2⟩ := ihb h.2 _ hf
    refine ⟨r0, ?_, h2⟩
    simp [findLabel, findL_none h.1 hr, h1]
  | bad => simp [findL] at hf
  | rangeM pre' m dIt dNx dOk dEn body => simp [findL] at hf
  | _ => simp [chkC] at h
 | label l0 =>
  intro ac l h rest' hf
  cases ac with
  | label l' =>
   simp only [chkC, beq_iff_eq] at h
   subst h
   simp only [findL] at hf
   split at hf
   ·rename_i he
    injection hf with hf
    subst hf
    exact ⟨.skip, by simp only [findLabel]; rw [if_pos he], rfl⟩
   ·cases hf
  | bad => simp [findL] at hf
  | _ => simp [chkC] at h
 | _ =>
  intro ac l h rest' hf
  cases ac <;> first | (simp [findL] at hf; done) | (simp [chkC] at h; done)
def Serves (P : Program) (f : FuncId) (args : List V) (h : Heap) (v : V) (h' : Heap) : Prop :=
 ∀ (F : Nat → Option Obj) (w0 : World) (G : Ghost) (w : World) (cargs : Array Value), Inv G h w → FrameOK F G h w → Same w0 w → args.length = cargs.size →
  (∀ (j : Nat) (x : V), args[j]? = some x → x.free = true → R G x (cargs.getD j Go.undef)) →
  Calls P f cargs w fun e w' => ∃ cv G', e = .returned cv ∧ G.le G' ∧ Inv G' h' w' ∧ FrameOK F G' h' w' ∧ Same w0 w' ∧ R G' v cv
structure TabOK (P : Program) (tab : FuncId → Option AFn) : Prop where
 mixed : P.follows .mixedOrders = true
 fn : ∀ (f : FuncId) (af : AFn), tab f = some af → ∃ fn c, P.funcs[f]? = some fn ∧ fn.body = some c ∧ (fn.name == "runtime.NumGoroutine") = false ∧
  (af.ext = none → chkC P fn.ntmps c af.body = true ∧ chkRes P fn.results.toList af.res = true)
 ext : ∀ (f : FuncId) (af : AFn) (e : List V → Heap → Option (V × Heap)), tab f = some af → af.ext = some e →
  ∀ args h v h', args.all V.free = true → e args h = some (v, h') → Serves P f args h v h'

section
variable {P : Program} {tab : FuncId → Option AFn}
def Post (F : Nat → Option Obj) (w0 : World) (N : Nat) (G : Ghost) (lam : Lam) (e : AExit) (s' : St) : Exit → Act → World → Prop :=
 fun ex a' w' => ex = exitOf e ∧ ∃ G' lam', G.le G' ∧ Lam.le lam lam' ∧ SR F w0 N G' lam' s' a' w'
theorem Post.mono {F : Nat → Option Obj} {w0 : World} {N : Nat} {G G1 : Ghost} {lam lam1 : Lam} {e : AExit} {s' : St} (hG : G.le G1) (hl : Lam.le lam lam1) {ex : Exit} {a : Act} {w : World} (h : Post F w0 N G1 lam1 e s' ex a w) :
  Post F w0 N G lam e s' ex a w := ⟨h.1, let ⟨G', lam', h1, h2, h3⟩ := h.2; ⟨G', lam', hG.trans h1, Lam.le.trans hl h2, h3⟩⟩
def CodeOK (P : Program) (run : RunT) : Prop :=
 ∀ (N N0 : Nat) (c : Code) (ac : AC), N0 ≤ N → chkC P N0 c ac = true → ∀ (F : Nat → Option Obj) (w0 : World) (G : Ghost) (lam : Lam) (s : St) (a : Act) (w : World), SR F w0 N G lam s a w →
  ∀ (e : AExit) (s' : St), run ac s = some (e, s') → c.wp P (Post F w0 N G lam e s') a w
def From (P : Program) (items : List Item) (Q : Exit → Act → World → Prop) (a : Act) (w : World) : Prop :=
 ∀ (b : Frame) (k : List Item) (cs : List Frame), ∃ e a' w', Q e a' w' ∧ Arrives P (lone (b.at a (items ++ k)) cs w) b k cs e a' w'
def LoopOK (P : Program) (run : RunT) : Prop :=
 ∀ (N N0 : Nat) (c : Code) (ac : AC), N0 ≤ N → chkC P N0 c ac = true → ∀ (F : Nat → Option Obj) (w0 : World) (G : Ghost) (lam : Lam) (s : St) (a : Act) (w : World), SR F w0 N G lam s a w →
  ∀ (e : AExit) (s' : St), run (.loop ac) s = some (e, s') → From P [.code c, .inLoop c] (Post F w0 N G lam e s') a w
def ScopeOK (P : Program) (run : RunT) : Prop :=
 ∀ (N N0 : Nat) (c c1 : Code) (ac ac1 : AC), N0 ≤ N → chkC P N0 c ac = true → chkC P N0 c1 ac1 = true → ∀ (F : Nat → Option Obj) (w0 : World) (G : Ghost) (lam : Lam) (s : St) (a : Act) (w : World), SR F w0 N G lam s a w →
  ∀ (e : AExit) (s' : St), run (.scope ac ac1) s = some (e, s') → From P [.code c1, .inScope c] (Post F w0 N G lam e s') a w
theorem loop_sound {run : RunT} (ho : CodeOK P run) (hl : LoopOK P run) : LoopOK P (codeF tab run) := by
 intro N N0 c ac hN hchk F w0 G lam s a w hs e s' h b k cs
 simp only [codeF] at h
 split at h
 ·rename_i s1 h1
  obtain ⟨e1, a1, w1, ⟨rfl, G1, lam1, h2, h3, h4⟩, harr⟩ := ho N N0 c ac hN hchk F w0 G lam s a w hs _ _ h1 b (.inLoop c :: k) cs
  obtain ⟨e2, a2, w2, hq, harr2⟩ := hl N N0 c ac hN hchk F w0 G1 lam1 s1 a1 w1 h4 e s' h b k cs
  exact ⟨e2, a2, w2, hq.mono h2 h3, .of_steps (Steps.trans harr (.one step_inLoop)) harr2⟩
 ·rename_i hn
  obtain ⟨e1, a1, w1, hq, harr⟩ := ho N N0 c ac hN hchk F w0 G lam s a w hs e s' h b (.inLoop c :: k) cs
  have he : e ≠ .normal := fun he => hn s' (by rw [h, he])
  refine ⟨e1, a1, w1, hq, ?_⟩
  obtain ⟨rfl, _⟩ := hq
  exact .pass (x := .inLoop c) rfl (fun _ _ => .inl (by cases e <;> first | exact absurd rfl he | (intro hx; cases hx))) harr
theorem scope_sound {run : RunT} (ho : CodeOK P run) (hl : ScopeOK P run) : ScopeOK P (codeF tab run) := by
 intro N N0 c c1 ac ac1 hN hchk hchk1 F w0 G lam s a w hs e s' h b k cs
 simp only [codeF] at h
 split at h
 ·rename_i l s1 h1
  obtain ⟨e1, a1, w1, ⟨rfl, G1, lam1, h2, h3, h4⟩, harr⟩ := ho N N0 c1 ac1 hN hchk1 F w0 G lam s a w hs _ _ h1 b (.inScope c :: k) cs
  split at h
  ·rename_i rest hf
   obtain ⟨rest0, hf0, hr0⟩ := findL_spec hchk _ hf
   obtain ⟨e2, a2, w2, hq, harr2⟩ := hl N N0 c rest0 ac rest hN hchk hr0 F w0 G1 lam1 s1 a1 w1 h4 e s' h b k cs
   exact ⟨e2, a2, w2, hq.mono h2 h3, .of_steps (harr _ (by simp [gotoIn, hf0])) harr2⟩
  ·rename_i hf
   injection h with h
   injection h with he hs'
   subst he hs'
   refine ⟨.goto l, a1, w1, ⟨rfl, G1, lam1, h2, h3, h4⟩, fun k' hk => harr k' ?_⟩
   simp [gotoIn, findL_none hchk hf, hk]
 ·rename_i hn
  obtain ⟨e1, a1, w1, hq, harr⟩ := ho N N0 c1 ac1 hN hchk1 F w0 G lam s a w hs e s' h b (.inScope c :: k) cs
  refine ⟨e1, a1, w1, hq, ?_⟩
  obtain ⟨rfl, _⟩ := hq
  cases e with
  | normal => exact Steps.trans harr (.one step_inScope)
  | exit id => exact fun k' hk => harr k' (by simp [exitTo, hk])
  | goto l => exact absurd h (hn l s')
  | ret => exact harr
theorem SR.drew {F : Nat → Option Obj} {w0 : World} {N : Nat} {G : Ghost} {lam : Lam} {s : St} {a : Act} {w : World} (hs : SR F w0 N G lam s a w) : SR F w0 N G lam s a { w with drawn := w.drawn + 1 } :=
 ⟨hs.inv.ext (Ext.drew w), hs.frame.ext (Ext.drew w), hs.locs.ext (Ext.drew w), hs.tmp, hs.size, hs.defers, hs.same.trans (Ext.drew w).same⟩
theorem code_sound (ht : TabOK P tab) {run : RunT} (hc : CallOK P (callF tab run)) (ho : CodeOK P run) (hl : LoopOK P (codeF tab run)) (hsc : ScopeOK P (codeF tab run)) : CodeOK P (codeF tab run) := by
 intro N N0 c ac hN hchk F w0 G lam s a w hs e s' h
 have same : Post F w0 N G lam .normal s (.normal) a w := ⟨rfl, G, lam, .refl G, .refl lam, hs⟩
 unfold chkC at hchk
 split at hchk
 ·-- skip
  simp only [codeF, Option.some.injEq, Prod.mk.injEq] at h
  obtain ⟨rfl, rfl⟩ := h
  exact wp_skip ⟨rfl, G, lam, .refl G, .refl lam, hs⟩
 ·-- a region
  rename_i id ops l
  simp only [codeF] at h
  split at h
  ·rename_i s1 h1
   simp only [Option.some.injEq, Prod.mk.injEq] at h
   obtain ⟨rfl, rfl⟩ := h
   refine wp_region ?_
   have := ops_sound (Q := Post F w0 N G lam .normal s1) hc hN l 0 G lam s a w hchk hs h1 (fun G' lam' a' w' h2 h3 h4 => ⟨rfl, G', lam', h2, h3, h4⟩) (Nat.zero_le _)
   simpa [List.range_eq_range'] using this
  ·cases h
 ·-- a drawn region
  rename_i id ops l pre
  simp only [codeF] at h
  split at h
  ·rename_i s1 h1
   simp only [Option.some.injEq, Prod.mk.injEq] at h
   obtain ⟨rfl, rfl⟩ := h
   refine wp_region_any ht.mixed ?_
   rw [runAny_iff] at h1
   have hlen : l.length = ops.size := by have := (chkDops_spec hchk).1; simpa using this
   rw [hlen] at h1
   exact dops_sound (Q := Post F w0 N G lam .normal s1) hc hN hchk ops.size _ G lam s a _ hs.drew h1.2 (fun G' lam' s2 a' w' e2 h2 h3 h4 => let ⟨G2, q1, q2⟩ := ends_sound hs e2 h2 h3 h4; ⟨rfl, G2, lam', q1, h3, q2⟩)
  ·cases h
 ·-- a drawn region in which no order matters
  rename_i id ops l pre
  simp only [Bool.and_eq_true] at hchk
  simp only [codeF] at h
  split at h
  ·rename_i s1 h1
   simp only [Option.some.injEq, Prod.mk.injEq] at h
   obtain ⟨rfl, rfl⟩ := h
   refine wp_region_any ht.mixed ?_
   have h1 := any_order hchk.2 h1
   rw [runAny_iff] at h1
   have hlen : l.length = ops.size := by have := (chkDops_spec hchk.1).1; simpa using this
   rw [hlen] at h1
   exact dops_sound (Q := Post F w0 N G lam .normal s1) hc hN hchk.1 ops.size _ G lam s a _ hs.drew h1.2 (fun G' lam' s2 a' w' e2 h2 h3 h4 => let ⟨G2, q1, q2⟩ := ends_sound hs e2 h2 h3 h4; ⟨rfl, G2, lam', q1, h3, q2⟩)
  ·cases h
 ·-- one behind the other
  rename_i x y x' y'
  simp only [Bool.and_eq_true] at hchk
  simp only [codeF] at h
  refine wp_seq ?_
  split at h
  ·rename_i s1 h1
   refine wp_mono (ho N N0 x x' hN hchk.1 F w0 G lam s a w hs _ _ h1) ?_
   rintro ex a1 w1 ⟨rfl, G1, lam1, h2, h3, h4⟩
   exact wp_mono (ho N N0 y y' hN hchk.2 F w0 G1 lam1 s1 a1 w1 h4 e s' h) (fun ex a2 w2 hq => hq.mono h2 h3)
  ·rename_i hn
   refine wp_mono (ho N N0 x x' hN hchk.1 F w0 G lam s a w hs _ _ h) ?_
   rintro ex a1 w1 ⟨rfl, hq⟩
   cases e with
   | normal => exact absurd h (hn s')
   | exit id => exact ⟨rfl, hq⟩
   | goto l => exact ⟨rfl, hq⟩
   | ret => exact ⟨rfl, hq⟩
 ·-- ranging over a map
  rename_i i pre b0 L pre' m dIt dNx dOk dEn body
  simp only [codeF] at h
  split at h
  ·rename_i s1 h1
   split at h
   ·rename_i id hm
    split at h
    ·rename_i k f hob
     split at h
     ·rename_i s2 h2
      simp only [Option.some.injEq, Prod.mk.injEq] at h
      obtain ⟨rfl, rfl⟩ := h
      exact range_sound hc hN hchk hs h1 hm hob h2 (fun G' lam' a' w' h3 h4 h5 => ⟨rfl, G', lam', h3, h4, h5⟩)
     ·cases h
    ·cases h
   ·cases h
  ·cases h
 ·-- a choice
  rename_i c0 x y c' x' y'
  simp only [Bool.and_eq_true] at hchk
  simp only [codeF] at h
  have hr := hs.ev hchk.1.1
  split at h
  ·rename_i t htt
   rw [htt] at hr
   refine wp_cond hr.bool_ ?_
   cases t
   ·exact ho N N0 y y' hN hchk.2 F w0 G lam s a w hs e s' (by simpa using h)
   ·exact ho N N0 x x' hN hchk.1.2 F w0 G lam s a w hs e s' (by simpa using h)
  ·cases h
 ·-- a block
  rename_i id x id' x'
  simp only [Bool.and_eq_true, beq_iff_eq] at hchk
  obtain ⟨rfl, hx⟩ := hchk
  simp only [codeF] at h
  refine wp_block ?_
  split at h
  ·rename_i id2 s1 h1
   refine wp_mono (ho N N0 x x' hN hx F w0 G lam s a w hs _ _ h1) ?_
   rintro ex a1 w1 ⟨rfl, hq⟩
   simp only [exitOf, Exit.inBlock]
   split at h
   ·rename_i he
    injection h with h
    injection h with h3 h4
    subst h3 h4
    rw [if_pos he]
    exact ⟨rfl, hq⟩
   ·rename_i he
    injection h with h
    injection h with h3 h4
    subst h3 h4
    rw [if_neg he]
    exact ⟨rfl, hq⟩
  ·rename_i hn
   refine wp_mono (ho N N0 x x' hN hx F w0 G lam s a w hs _ _ h) ?_
   rintro ex a1 w1 ⟨rfl, hq⟩
   cases e with
   | normal => exact ⟨rfl, hq⟩
   | exit id2 => exact absurd h (hn id2 s')
   | goto l => exact ⟨rfl, hq⟩
   | ret => exact ⟨rfl, hq⟩
 ·-- a loop
  rename_i x x'
  intro b k cs
  obtain ⟨e1, a1, w1, hq, harr⟩ := hl N N0 x x' hN hchk F w0 G lam s a w hs e s' h b k cs
  exact ⟨e1, a1, w1, hq, .of_steps (.one step_loop) harr⟩
 ·-- exit
  simp only [beq_iff_eq] at hchk
  subst hchk
  simp only [codeF, Option.some.injEq, Prod.mk.injEq] at h
  obtain ⟨rfl, rfl⟩ := h
  exact wp_exit ⟨rfl, G, lam, .refl G, .refl lam, hs⟩
 ·-- a scope
  rename_i x x' x1'
  simp only [Bool.and_eq_true] at hchk
  intro b k cs
  obtain ⟨e1, a1, w1, hq, harr⟩ := hsc N N0 x x x' x1' hN hchk.1 hchk.2 F w0 G lam s a w hs e s' h b k cs
  exact ⟨e1, a1, w1, hq, .of_steps (.one step_scope) harr⟩
 ·simp only [codeF, Option.some.injEq, Prod.mk.injEq] at h
  obtain ⟨rfl, rfl⟩ := h
  exact wp_label ⟨rfl, G, lam, .refl G, .refl lam, hs⟩
 ·simp only [beq_iff_eq] at hchk
  subst hchk
  simp only [codeF, Option.some.injEq, Prod.mk.injEq] at h
  obtain ⟨rfl, rfl⟩ := h
  exact wp_goto ⟨rfl, G, lam, .refl G, .refl lam, hs⟩
 ·simp only [codeF, Option.some.injEq, Prod.mk.injEq] at h
  obtain ⟨rfl, rfl⟩ := h
  exact wp_ret ⟨rfl, G, lam, .refl G, .refl lam, hs⟩
 ·cases h
 ·cases hchk
theorem call_ok (ht : TabOK P tab) {run : RunT} (ho : CodeOK P run) : CallOK P (callF tab run) := by
 intro f args h v h' hcall
 unfold callF at hcall
 split at hcall
 ·cases hcall
 ·rename_i af haf
  obtain ⟨fn, c, hf, hb, hname, hchk⟩ := ht.fn f af haf
  refine ⟨fn, hf, by rw [hb]; rfl, hname, ?_⟩
  split at hcall
  ·rename_i hfree
   split at hcall
   ·rename_i ex hex
    exact ht.ext f af ex haf hex args h v h' hfree hcall
   ·rename_i hex
    obtain ⟨hc1, hc2⟩ := hchk hex
    intro F w0 G w cargs hi hfr hsame hlen hargs
    have hR : ∀ (j : Nat) (x : V), args[j]? = some x → R G x (cargs.getD j undef) := fun j x hx => hargs j x hx (by
     rw [List.all_eq_true] at hfree
     exact hfree x (List.mem_of_getElem? hx))
    -- the callee's state
    have hs : SR F w0 (cargs ++ Array.replicate (fn.ntmps - cargs.size) undef).size G (fun _ => none) ⟨initT (if af.keepA = true then args else args.map V.retag), fun _ => none, h⟩
      { tmps := cargs ++ Array.replicate (fn.ntmps - cargs.size) undef, defers := [] } w := by
     refine ⟨hi, hfr, ⟨fun sl ver cells hc => (by cases hc), fun sl ver B hb => (by cases hb), fun sl ver B hb => (by cases hb), fun sl ver B id ob r hb => (by cases hb), fun sl sl' ver ver' B hb => (by cases hb),
      fun sl ver B hb => (by cases hb)⟩, fun t => ?_, rfl, rfl, hsame⟩
     simp only [initT]
     by_cases ht : t < args.length
     ·have hget : args[t]? = some args[t] := by simp [ht]
      have hcv : (cargs ++ Array.replicate (fn.ntmps - cargs.size) undef).getD t undef = cargs.getD t undef := by
       simp [Array.getElem?_append_left (show t < cargs.size by omega)]
      show RT G _ _ ((cargs ++ Array.replicate (fn.ntmps - cargs.size) undef).getD t undef)
      rw [hcv]
      have h1 := hR t _ hget
      split
      ·rw [List.getD_eq_getElem?_getD, hget]; exact RT.to h1
      ·rw [List.getD_eq_getElem?_getD, List.getElem?_map, hget]; exact RT.to h1.retag
     ·have : (if af.keepA = true then args else args.map V.retag).getD t V.undef = V.undef := by
       split <;> rw [List.getD_eq_getElem?_getD, List.getElem?_eq_none (by first | omega | (simp; omega))] <;> rfl
      rw [this]
      exact RT.to (.undef _)
    have hN : fn.ntmps ≤ (cargs ++ Array.replicate (fn.ntmps - cargs.size) undef).size := by simp; omega
    refine calls_of_wp hf hb ?_
    have fin : ∀ (e : AExit) (s : St) (vs : List V), run af.body ⟨initT (if af.keepA = true then args else args.map V.retag), fun _ => none, h⟩ = some (e, s) → (e = .normal ∨ e = .ret) → resV s af.res = some vs →
      giveH af.pure h (if af.keepR = true then packV vs else (packV vs).retag) s.h = some (v, h') →
      c.wp P (bodyPost P fn fun e w' => ∃ cv G', e = .returned cv ∧ G.le G' ∧ Inv G' h' w' ∧ FrameOK F G' h' w' ∧ Same w0 w' ∧ R G' v cv) { tmps := cargs ++ Array.replicate (fn.ntmps - cargs.size) undef, defers := [] } w := by
     intro e s vs hrun he hres hgive
     refine wp_mono (ho _ _ c af.body hN hc1 F w0 G _ _ _ w hs e s hrun) ?_
     rintro ex a1 w1 ⟨rfl, G1, lam1, h2, h3, h4⟩
     obtain ⟨cv, h5, h6⟩ := results_run h4 hc2 hres
     have hv : R G1 (if af.keepR = true then packV vs else (packV vs).retag) cv := by
      split
      ·exact h6
      ·exact h6.retag
     have hfin : a1.defers = [] ∧ ∃ v0, (results fn a1.tmps).run P w1 = .ok v0 w1 ∧ ∃ cv G', (Ending.returned v0 = .returned cv) ∧ G.le G' ∧ Inv G' h' w1 ∧ FrameOK F G' h' w1 ∧ Same w0 w1 ∧ R G' v cv := by
      refine ⟨h4.defers, cv, h5, cv, ?_⟩
      generalize (if af.keepR = true then packV vs else (packV vs).retag) = v9 at hgive hv
      unfold giveH at hgive
      split at hgive
      ·split at hgive
       ·rename_i hkeep
        injection hgive with hgive
        injection hgive with e1 e2
        subst e1 e2
        obtain ⟨hold, hunder⟩ := hkeep
        have hlt : ∀ id r, G.ρ id = some r → id < h.next := fun id r hr => by
         rcases Nat.lt_or_ge id h.next with h7 | h7
         ·exact h7
         ·rw [hi.fresh id h7] at hr; cases hr
        have hobj : ∀ id ob, h.objs id = some ob → s.h.objs id = some ob ∧ id < h.next := fun id ob ho => by
         obtain ⟨r, hr, _⟩ := hi.obj id ob ho
         have := hlt id r hr
         exact ⟨by rw [hold id this]; exact ho, this⟩
        let G2 : Ghost := ⟨G1.M, fun id => if id < h.next then G1.ρ id else none⟩
        have hρ2 : ∀ id r, id < h.next → G1.ρ id = some r → G2.ρ id = some r := fun id r hid hr => by simp only [G2]; rw [if_pos hid]; exact hr
        have hρb : ∀ id r, G2.ρ id = some r → id < h.next ∧ G1.ρ id = some r := fun id r hr => by
         simp only [G2] at hr
         split at hr
         ·rename_i hid; exact ⟨hid, hr⟩
         ·cases hr
        have hM2 : ∀ b o c, G1.M b o = some c → G2.M b o = some c := fun _ _ _ hc => hc
        have forget : ∀ {x : V} {c c0 : Value}, R G x c0 → R G1 x c → R G2 x c := fun {x c c0} h0 h1 =>
         h1.forget hM2 hρ2 (h0.ids (fun id hne => by
          cases hr : G.ρ id with
          | none => exact absurd hr hne
          | some r => exact hlt id r hr))
        refine ⟨G2, rfl, ⟨h2.m, fun id r hr => hρ2 id r (hlt id r hr) (h2.r id r hr)⟩, ⟨h4.inv.imm, fun id ob ho => ?_, fun id hid => ?_, fun id id' ob ob' r r' h7 h8 h9 h10 h11 => ?_⟩, fun b o hb => ?_, h4.same, hv.forget hM2 hρ2 hunder⟩
        ·obtain ⟨ho1, hid⟩ := hobj id ob ho
         obtain ⟨r, hr, hob⟩ := h4.inv.obj id ob ho1
         obtain ⟨r0, hr0, hob0⟩ := hi.obj id ob ho
         refine ⟨r, hρ2 id r hid hr, ?_⟩
         cases ob with
         | var cells =>
          obtain ⟨cs, ty, k1, k2, k3⟩ := hob
          obtain ⟨cs0, ty0, _, k20, _⟩ := hob0
          exact ⟨cs, ty, k1, ⟨k2.size, k2.leaf, fun j x hx => forget (k20.rel j x hx) (k2.rel j x hx)⟩, k3⟩
         | row l =>
          obtain ⟨cs, ty, k1, k2, k3, k4, k5⟩ := hob
          obtain ⟨cs0, ty0, _, _, _, k40, _⟩ := hob0
          exact ⟨cs, ty, k1, k2, k3, fun i e hie => ⟨(k4 i e hie).1, fun j x hx => ⟨((k4 i e hie).2 j x hx).1, forget ((k40 i e hie).2 j x hx).2 ((k4 i e hie).2 j x hx).2⟩⟩, k5⟩
         | map k f =>
          obtain ⟨es, clock, k1, k2, k3, k4⟩ := hob
          obtain ⟨es0, clock0, _, k20, _, _⟩ := hob0
          refine ⟨es, clock, k1, ⟨k2.1, k2.2.1, fun n v hv => ?_, k2.2.2.2⟩, k3, k4⟩
          obtain ⟨e1, m1, m2, m3⟩ := k2.2.2.1 n v hv
          obtain ⟨e0, m10, m20, m30⟩ := k20.2.2.1 n v hv
          exact ⟨e1, m1, m2, forget m30 m3⟩
         | tok n sz => exact hob
        ·simp only [G2]; rw [if_neg (by omega)]
        ·exact h4.inv.sep id id' ob ob' r r' (hobj _ _ h7).1 (hobj _ _ h8).1 (hρb _ _ h9).2 (hρb _ _ h10).2 h11
        ·obtain ⟨f1, f2, f3⟩ := h4.frame b o hb
         exact ⟨f1, fun id ob r ho hr => f2 id ob r (hobj _ _ ho).1 (hρb _ _ hr).2, f3⟩
       ·cases hgive
      ·injection hgive with hgive
       injection hgive with e1 e2
       subst e1 e2
       exact ⟨G1, rfl, h2, h4.inv, h4.frame, h4.same, hv⟩
     rcases he with rfl | rfl
     ·exact hfin
     ·exact hfin
    have hpack : ∀ vs : List V, (match vs with | [v] => v | vs => V.tup vs) = packV vs := fun vs => rfl
    split at hcall
    ·rename_i s hrun
     split at hcall
     ·rename_i vs hres
      exact fin .normal s vs hrun (.inl rfl) hres hcall
     ·cases hcall
    ·rename_i s hrun
     split at hcall
     ·rename_i vs hres
      exact fin .ret s vs hrun (.inr rfl) hres hcall
     ·cases hcall
    ·cases hcall
  ·cases hcall
theorem all_ok (ht : TabOK P tab) : ∀ n, CodeOK P (codeK tab n) ∧ LoopOK P (codeK tab n) ∧ ScopeOK P (codeK tab n)
 | 0 => ⟨fun N N0 c ac hN hchk F w0 G lam s a w hs e s' h => (by cases h), fun N N0 c ac hN hchk F w0 G lam s a w hs e s' h => (by cases h), fun N N0 c c1 ac ac1 hN h1 h2 F w0 G lam s a w hs e s' h => (by cases h)⟩
 | n + 1 => by
  obtain ⟨h1, h2, h3⟩ := all_ok ht n
  have l := loop_sound (tab := tab) h1 h2
  have sc := scope_sound (tab := tab) h1 h3
  exact ⟨code_sound ht (call_ok ht h1) h1 l sc, l, sc⟩
theorem callD_sound (ht : TabOK P tab) : CallOK P (callD tab) := by
 intro f args h v h' hcall
 obtain ⟨n, hn⟩ := callF_cont hcall
 exact call_ok ht (all_ok ht n).1 f args h v h' hn

end
end Go.LS

/- The check of a whole function; a table out of a list. -/
namespace Go.LS
def chkFn (P : Program) (fn : Func) (af : AFn) : Bool :=
 match fn.body with
 | some c => !(fn.name == "runtime.NumGoroutine") && chkC P fn.ntmps c af.body && chkRes P fn.results.toList af.res
 | none => false
def tabOf : List (FuncId × AFn) → FuncId → Option AFn
 | [], _ => none
 | (g, af) :: l, f => if f = g then some af else tabOf l f
theorem tabOf_mem {l : List (FuncId × AFn)} {f : FuncId} {af : AFn} (h : tabOf l f = some af) : (f, af) ∈ l := by
 induction l with
 | nil => cases h
 | cons p l ih =>
  obtain ⟨g, a⟩ := p
  simp only [tabOf] at h
  split at h
  ·rename_i hfg; injection h with h; subst h hfg; simp
  ·exact List.mem_cons_of_mem _ (ih h)
def ListOK (P : Program) : List (FuncId × AFn) → Prop
 | [] => True
 | (f, af) :: l => (∃ fn, P.funcs[f]? = some fn ∧ chkFn P fn af = true ∧ af.ext = none) ∧ ListOK P l
theorem ListOK.mem {P : Program} {l : List (FuncId × AFn)} (h : ListOK P l) {f : FuncId} {af : AFn} (hm : (f, af) ∈ l) : ∃ fn, P.funcs[f]? = some fn ∧ chkFn P fn af = true ∧ af.ext = none := by
 induction l with
 | nil => cases hm
 | cons p l ih =>
  obtain ⟨g, a⟩ := p
  rcases List.mem_cons.1 hm with he | hm
  ·injection he with h1 h2; subst h1 h2; exact h.1
  ·exact ih h.2 hm
theorem ListOK.append {P : Program} : ∀ {l m : List (FuncId × AFn)}, ListOK P l → ListOK P m → ListOK P (l ++ m)
 | [], _, _, h => h
 | _ :: _, _, h, h' => ⟨h.1, ListOK.append h.2 h'⟩
theorem tabOK_of_list {P : Program} {l : List (FuncId × AFn)} (hm : P.follows .mixedOrders = true) (h : ListOK P l) : TabOK P (tabOf l) := by
 refine ⟨hm, fun f af hf => ?_, fun f af e hf he => ?_⟩
 ·obtain ⟨fn, h1, h2, h3⟩ := h.mem (tabOf_mem hf)
  unfold chkFn at h2
  split at h2
  ·rename_i c hc
   simp only [Bool.and_eq_true, Bool.not_eq_true'] at h2
   exact ⟨fn, c, h1, hc, h2.1.1, fun _ => ⟨h2.1.2, h2.2⟩⟩
  ·cases h2
 ·obtain ⟨fn, h1, h2, h3⟩ := h.mem (tabOf_mem hf)
  rw [h3] at he
  cases he

end Go.LS

/- Steps of compact code, as equations for 'simp'. -/
namespace Go.LS

section
variable {tab : FuncId → Option AFn} {call : CallT}
theorem callD_of {f : FuncId} {af : AFn} {args : List V} {h : Heap} {e : AExit} {s : St} {vs : List V} {v : V} (ht : tab f = some af) (he : af.ext = none) (hfree : args.all V.free = true)
  (hrun : codeD tab af.body ⟨initT (if af.keepA = true then args else args.map V.retag), fun _ => none, h⟩ = some (e, s)) (hex : e = .normal ∨ e = .ret) (hres : resV s af.res = some vs)
  {h' : Heap} (hv : giveH af.pure h (if af.keepR = true then packV vs else (packV vs).retag) s.h = some (v, h')) : callD tab f args h = some (v, h') := by
 unfold callD callF
 rw [ht]
 simp only [hfree, if_true, he]
 rw [hrun]
 rcases hex with rfl | rfl
 ·simp only [hres]; exact hv
 ·simp only [hres]; exact hv
theorem seq_n {a b : AC} {s s1 : St} (h : codeD tab a s = some (.normal, s1)) : codeD tab (.seq a b) s = codeD tab b s1 := by
 rw [codeD_seq, h]
theorem seq_x {a b : AC} {s s1 : St} {e : AExit} (h : codeD tab a s = some (e, s1)) (he : e ≠ .normal) : codeD tab (.seq a b) s = some (e, s1) := by
 rw [codeD_seq, h]
 cases e <;> first | exact absurd rfl he | rfl
theorem ops_of {l : List AOp} {s s1 : St} (h : runOps (callD tab) l s = some s1) : codeD tab (.ops l) s = some (.normal, s1) := by
 rw [codeD_ops, h]
theorem tops_of {l : List AOp} {pre : List (List Nat)} {s s1 : St} (h : runOps (callD tab) l s = some s1) : codeD tab (.tops l pre) s = some (.normal, s1) := by
 rw [codeD_tops, h]
theorem cond_t {c : Opd} {a b : AC} {s : St} (h : s.ev c = .bool true) : codeD tab (.cond c a b) s = codeD tab a s := by
 rw [codeD_cond, h]; rfl
theorem cond_f {c : Opd} {a b : AC} {s : St} (h : s.ev c = .bool false) : codeD tab (.cond c a b) s = codeD tab b s := by
 rw [codeD_cond, h]; rfl
theorem block_n {id : Nat} {c : AC} {s s1 : St} (h : codeD tab c s = some (.normal, s1)) : codeD tab (.block id c) s = some (.normal, s1) := by
 rw [codeD_block, h]
theorem block_x {id : Nat} {c : AC} {s s1 : St} (h : codeD tab c s = some (.exit id, s1)) : codeD tab (.block id c) s = some (.normal, s1) := by
 rw [codeD_block, h]; simp
theorem block_r {id : Nat} {c : AC} {s s1 : St} (h : codeD tab c s = some (.ret, s1)) : codeD tab (.block id c) s = some (.ret, s1) := by
 rw [codeD_block, h]
theorem block_o {id id' : Nat} {c : AC} {s s1 : St} (h : codeD tab c s = some (.exit id', s1)) (hne : id' ≠ id) : codeD tab (.block id c) s = some (.exit id', s1) := by
 rw [codeD_block, h]; simp [hne]
theorem loop_n {c : AC} {s s1 : St} (h : codeD tab c s = some (.normal, s1)) : codeD tab (.loop c) s = codeD tab (.loop c) s1 := by
 rw [codeD_loop, h]
theorem loop_x {c : AC} {s s1 : St} {e : AExit} (h : codeD tab c s = some (e, s1)) (he : e ≠ .normal) : codeD tab (.loop c) s = some (e, s1) := by
 rw [codeD_loop, h]
 cases e <;> first | exact absurd rfl he | rfl

def W (tab : FuncId → Option AFn) (c : AC) (s : St) (Q : AExit → St → Prop) : Prop := ∃ e s', codeD tab c s = some (e, s') ∧ Q e s'
def thenW (K : St → Prop) (Q : AExit → St → Prop) : AExit → St → Prop
 | .normal, s => K s
 | .exit id, s => Q (.exit id) s
 | .goto l, s => Q (.goto l) s
 | .ret, s => Q .ret s
def blockW (id : Nat) (Q : AExit → St → Prop) : AExit → St → Prop
 | .exit id', s => if id' = id then Q .normal s else Q (.exit id') s
 | .normal, s => Q .normal s
 | .goto l, s => Q (.goto l) s
 | .ret, s => Q .ret s
variable {Q : AExit → St → Prop} {s : St}
theorem W.mono {c : AC} {Q' : AExit → St → Prop} (h : W tab c s Q) (hq : ∀ e s, Q e s → Q' e s) : W tab c s Q' := by
 obtain ⟨e, s', h1, h2⟩ := h; exact ⟨e, s', h1, hq _ _ h2⟩
theorem W_skip (h : Q .normal s) : W tab .skip s Q := ⟨_, _, codeD_skip s, h⟩
theorem W_label {l : Nat} (h : Q .normal s) : W tab (.label l) s Q := ⟨_, _, codeD_label l s, h⟩
theorem W_ret (h : Q .ret s) : W tab .ret s Q := ⟨_, _, codeD_ret s, h⟩
theorem W_exit {id : Nat} (h : Q (.exit id) s) : W tab (.exit id) s Q := ⟨_, _, codeD_exit id s, h⟩
theorem W_goto {l : Nat} (h : Q (.goto l) s) : W tab (.goto l) s Q := ⟨_, _, codeD_goto l s, h⟩
theorem W_ops {l : List AOp} {s1 : St} (h : runOps (callD tab) l s = some s1) (hq : Q .normal s1) : W tab (.ops l) s Q := ⟨_, _, ops_of h, hq⟩
theorem W_tops {l : List AOp} {pre : List (List Nat)} {s1 : St} (h : runOps (callD tab) l s = some s1) (hq : Q .normal s1) : W tab (.tops l pre) s Q := ⟨_, _, tops_of h, hq⟩
theorem W_seq {a b : AC} (h : W tab a s (thenW (fun s1 => W tab b s1 Q) Q)) : W tab (.seq a b) s Q := by
 obtain ⟨e, s1, h1, h2⟩ := h
 cases e with
 | normal => obtain ⟨e2, s2, h3, h4⟩ := h2; exact ⟨e2, s2, by rw [seq_n h1, h3], h4⟩
 | exit id => exact ⟨_, _, seq_x h1 (by intro h; cases h), h2⟩
 | goto l => exact ⟨_, _, seq_x h1 (by intro h; cases h), h2⟩
 | ret => exact ⟨_, _, seq_x h1 (by intro h; cases h), h2⟩
theorem W_cond {c : Opd} {a b : AC} {t : Bool} (hc : s.ev c = .bool t) (ha : t = true → W tab a s Q) (hb : t = false → W tab b s Q) : W tab (.cond c a b) s Q := by
 cases t with
 | true => obtain ⟨e, s1, h1, h2⟩ := ha rfl; exact ⟨e, s1, by rw [cond_t hc, h1], h2⟩
 | false => obtain ⟨e, s1, h1, h2⟩ := hb rfl; exact ⟨e, s1, by rw [cond_f hc, h1], h2⟩
theorem W_cond_t {c : Opd} {a b : AC} (hc : s.ev c = .bool true) (ha : W tab a s Q) : W tab (.cond c a b) s Q := W_cond hc (fun _ => ha) (fun h => by cases h)
theorem W_cond_f {c : Opd} {a b : AC} (hc : s.ev c = .bool false) (hb : W tab b s Q) : W tab (.cond c a b) s Q := W_cond hc (fun h => by cases h) (fun _ => hb)
theorem W_block {id : Nat} {c : AC} (h : W tab c s (blockW id Q)) : W tab (.block id c) s Q := by
 obtain ⟨e, s1, h1, h2⟩ := h
 cases e with
 | normal => exact ⟨_, _, block_n h1, h2⟩
 | exit id' =>
  by_cases he : id' = id
  ·subst he
   simp only [blockW, if_true] at h2
   exact ⟨_, _, block_x h1, h2⟩
  ·simp only [blockW, he, if_false] at h2
   exact ⟨_, _, block_o h1 he, h2⟩
 | goto l => exact ⟨_, _, by rw [codeD_block, h1], h2⟩
 | ret => exact ⟨_, _, block_r h1, h2⟩
theorem W_loop {c : AC} (h : W tab c s (thenW (fun s1 => W tab (.loop c) s1 Q) Q)) : W tab (.loop c) s Q := by
 obtain ⟨e, s1, h1, h2⟩ := h
 cases e with
 | normal => obtain ⟨e2, s2, h3, h4⟩ := h2; exact ⟨e2, s2, by rw [loop_n h1, h3], h4⟩
 | exit id => exact ⟨_, _, loop_x h1 (by intro h; cases h), h2⟩
 | goto l => exact ⟨_, _, loop_x h1 (by intro h; cases h), h2⟩
 | ret => exact ⟨_, _, loop_x h1 (by intro h; cases h), h2⟩
theorem W_loop' {c c' : AC} (he : c = c') (h : W tab c' s (thenW (fun s1 => W tab (.loop c) s1 Q) Q)) : W tab (.loop c) s Q := W_loop (by rw [he] at h ⊢; exact h)
theorem W_for {c : AC} {n : Nat} (I : Nat → St → Prop) (hstep : ∀ i s, i < n → I i s → W tab c s (fun e s' => (e = .normal ∧ I (i + 1) s') ∨ (e ≠ .normal ∧ Q e s'))) (hend : ∀ s, I n s → W tab c s (fun e s' => e ≠ .normal ∧ Q e s')) :
  ∀ (k i : Nat) (s : St), i + k = n → I i s → W tab (.loop c) s Q
 | 0, i, s, hk, hi => by
  have : i = n := by omega
  subst this
  refine W_loop ((hend s hi).mono ?_)
  rintro e s' ⟨he, hq⟩
  cases e with
  | normal => exact absurd rfl he
  | _ => exact hq
 | k + 1, i, s, hk, hi => by
  refine W_loop ((hstep i s (by omega) hi).mono ?_)
  rintro e s' (⟨rfl, hq⟩ | ⟨he, hq⟩)
  ·exact W_for I hstep hend k (i + 1) s' (by omega) hq
  ·cases e with
   | normal => exact absurd rfl he
   | _ => exact hq
theorem W_for' {c c' : AC} (he : c = c') {n : Nat} (I : Nat → St → Prop) (h0 : I 0 s) (hstep : ∀ i s, i < n → I i s → W tab c' s (fun e s' => (e = .normal ∧ I (i + 1) s') ∨ (e ≠ .normal ∧ Q e s'))) (hend : ∀ s, I n s → W tab c' s (fun e s' => e ≠ .normal ∧ Q e s')) : W tab (.loop c) s Q := by
 rw [he]
 exact W_for I hstep hend n 0 s (by omega) h0
def HExt (h h' : Heap) : Prop := h.next ≤ h'.next ∧ ∀ id, id < h.next → h'.objs id = h.objs id
theorem HExt.refl (h : Heap) : HExt h h := ⟨Nat.le_refl _, fun _ _ => rfl⟩
theorem HExt.trans {a b c : Heap} (h : HExt a b) (k : HExt b c) : HExt a c := ⟨Nat.le_trans h.1 k.1, fun id hid => by rw [k.2 id (Nat.lt_of_lt_of_le hid h.1), h.2 id hid]⟩
theorem HExt.new (h : Heap) (o : AObj) : HExt h (h.new o) := ⟨by simp [Heap.new], fun id hid => by simp only [Heap.new, upd]; rw [if_neg (by omega)]⟩
theorem HExt.kill {h h' : Heap} (hx : HExt h h') {id : Nat} (hid : h.next ≤ id) : HExt h (h'.kill id) := ⟨hx.1, fun i hi => by simp only [Heap.kill, upd]; rw [if_neg (by omega)]; exact hx.2 i hi⟩
theorem HExt.set {h h' : Heap} (hx : HExt h h') {id : Nat} (hid : h.next ≤ id) (o : AObj) : HExt h (h'.set id o) := ⟨hx.1, fun i hi => by simp only [Heap.set, upd]; rw [if_neg (by omega)]; exact hx.2 i hi⟩
theorem W_call {f : FuncId} {af : AFn} {args : List V} {h : Heap} {v : V} (ht : tab f = some af) (he : af.ext = none) (hp : af.pure = true) (hfree : args.all V.free = true)
  (hw : W tab af.body ⟨initT (if af.keepA = true then args else args.map V.retag), fun _ => none, h⟩ (fun e s => (e = .normal ∨ e = .ret) ∧ ∃ vs, resV s af.res = some vs ∧ (if af.keepR = true then packV vs else (packV vs).retag) = v ∧ v.under h.next = true ∧ HExt h s.h)) :
  callD tab f args h = some (v, h) := by
 obtain ⟨e, s, h1, h2, vs, h3, rfl, h4, h5⟩ := hw
 refine callD_of ht he hfree h1 h2 h3 ?_
 unfold giveH
 rw [if_pos hp, if_pos ⟨h5.2, h4⟩]
theorem W_callH {f : FuncId} {af : AFn} {args : List V} {h h' : Heap} {v : V} (ht : tab f = some af) (he : af.ext = none) (hp : af.pure = false) (hfree : args.all V.free = true)
  (hw : W tab af.body ⟨initT (if af.keepA = true then args else args.map V.retag), fun _ => none, h⟩ (fun e s => (e = .normal ∨ e = .ret) ∧ ∃ vs, resV s af.res = some vs ∧ (if af.keepR = true then packV vs else (packV vs).retag) = v ∧ s.h = h')) :
  callD tab f args h = some (v, h') := by
 obtain ⟨e, s, h1, h2, vs, h3, rfl, rfl⟩ := hw
 refine callD_of ht he hfree h1 h2 h3 ?_
 unfold giveH
 rw [if_neg (by rw [hp]; simp)]

def putR (d : Option Nat) (t : Nat → V) (r : V × Loc × Heap) : St := St.put ⟨t, r.2.1, r.2.2⟩ d r.1
def wantV (v : V) (want : Bool) : Option Bool :=
 match v with
 | .bool b => some (b == want)
 | .tup [] => some false
 | _ => none
def stepG (w : Option Bool) (yes no : Option St) : Option St :=
 match w with
 | some true => yes
 | some false => no
 | none => none
theorem runOps_nil (s : St) : runOps call [] s = some s := rfl
theorem runOps_cons (o : AOp) (l : List AOp) (s : St) : runOps call (o :: l) s = (stepO call o s).bind (runOps call l) := by
 simp only [runOps]
 cases stepO call o s <;> rfl
theorem stepO_any (o : AOp) (t : Nat → V) (loc : Loc) (h : Heap) : stepO call o ⟨t, loc, h⟩ = stepG (o.wanted ⟨t, loc, h⟩) ((evalO call o ⟨t, loc, h⟩).map (putR o.d t)) (some (putR o.d t (.tup [], loc, h))) := by
 unfold stepO stepG
 cases o.wanted ⟨t, loc, h⟩ with
 | none => rfl
 | some b => cases b with
  | false => rfl
  | true => cases evalO call o ⟨t, loc, h⟩ <;> rfl
theorem evalO_claim (d : Option Nat) (g : Option (Nat × Bool)) (k : AK) (x : Opd) (c : Claim) (s : St) : evalO call ⟨d, g, k, some (x, c)⟩ s = if c.fits (s.ev x) = true then evalK call d s k else none := rfl
theorem evalO_plain (d : Option Nat) (g : Option (Nat × Bool)) (k : AK) (s : St) : evalO call ⟨d, g, k, none⟩ s = evalK call d s k := rfl
theorem stepO_plain (d : Option Nat) (k : AK) (t : Nat → V) (loc : Loc) (h : Heap) : stepO call ⟨d, none, k, none⟩ ⟨t, loc, h⟩ = (evalK call d ⟨t, loc, h⟩ k).map (putR d t) := stepO_any _ _ _ _
theorem stepO_claim (d : Option Nat) (k : AK) (x : Opd) (c : Claim) (t : Nat → V) (loc : Loc) (h : Heap) :
  stepO call ⟨d, none, k, some (x, c)⟩ ⟨t, loc, h⟩ = (if c.fits (St.ev ⟨t, loc, h⟩ x) = true then evalK call d ⟨t, loc, h⟩ k else none).map (putR d t) := stepO_any _ _ _ _
theorem stepO_guard (d : Option Nat) (j : Nat) (w : Bool) (k : AK) (t : Nat → V) (loc : Loc) (h : Heap) :
  stepO call ⟨d, some (j, w), k, none⟩ ⟨t, loc, h⟩ = stepG (wantV (t j) w) ((evalK call d ⟨t, loc, h⟩ k).map (putR d t)) (some (putR d t (.tup [], loc, h))) := stepO_any _ _ _ _
theorem stepO_guardc (d : Option Nat) (j : Nat) (w : Bool) (k : AK) (x : Opd) (c : Claim) (t : Nat → V) (loc : Loc) (h : Heap) :
  stepO call ⟨d, some (j, w), k, some (x, c)⟩ ⟨t, loc, h⟩ = stepG (wantV (t j) w) ((if c.fits (St.ev ⟨t, loc, h⟩ x) = true then evalK call d ⟨t, loc, h⟩ k else none).map (putR d t)) (some (putR d t (.tup [], loc, h))) := stepO_any _ _ _ _
theorem putR_some (d : Nat) (t : Nat → V) (v : V) (loc : Loc) (h : Heap) : putR (some d) t (v, loc, h) = ⟨upd t d v, loc, h⟩ := rfl
theorem putR_none (t : Nat → V) (v : V) (loc : Loc) (h : Heap) : putR none t (v, loc, h) = ⟨t, loc, h⟩ := rfl
theorem ev_t (t : Nat → V) (loc : Loc) (h : Heap) (n : Nat) : St.ev ⟨t, loc, h⟩ (.t n) = t n := rfl
theorem ev_c (t : Nat → V) (loc : Loc) (h : Heap) (v : V) : St.ev ⟨t, loc, h⟩ (.c v) = v := rfl
theorem stepG_true (yes no : Option St) : stepG (some true) yes no = yes := rfl
theorem stepG_false (yes no : Option St) : stepG (some false) yes no = no := rfl
theorem upd_app {α : Type} (f : Nat → α) (i j : Nat) (v : α) : upd f i v j = if j = i then v else f j := rfl

end
def Acc (size : Nat) (h0 h : Heap) (v : V) (l : List (List V)) : Prop :=
 (l = [] ∧ v = .lst .nil []) ∨ ∃ tk, v = .lst (.own tk) l ∧ h.objs tk = some (.tok l.length size) ∧ h0.next ≤ tk
theorem Acc.nil (size : Nat) (h0 h : Heap) : Acc size h0 h (.lst .nil []) [] := .inl ⟨rfl, rfl⟩
theorem Acc.append {size bytes : Nat} {h0 h : Heap} {v : V} {l m : List (List V)} {tg : Tag} (ha : Acc size h0 h v l) (hx : HExt h0 h) (hm : m ≠ []) (hsm : okSize size m = true) (hsl : okSize size l = true)
  (hb : (l.length + m.length) * bytes ≤ 140737488355328) : ∃ v' h', appendV size bytes h v (.lst tg m) = some (v', h') ∧ Acc size h0 h' v' (l ++ m) ∧ HExt h0 h' := by
 have hnew : ∀ (h : Heap) o, (h.new o).objs h.next = some o := fun h o => by simp [Heap.new, upd]
 rcases ha with ⟨rfl, rfl⟩ | ⟨tk, rfl, htk, hlt⟩
 ·refine ⟨.lst (.own h.next) ([] ++ m), h.new (.tok ([] ++ m).length size), ?_, .inr ⟨h.next, rfl, hnew _ _, hx.1⟩, hx.trans (.new _ _)⟩
  unfold appendV
  simp only [elemsOf]
  rw [if_neg hm, if_pos hb, if_pos ⟨hsm, hsl⟩]
 ·refine ⟨.lst (.own h.next) (l ++ m), (h.kill tk).new (.tok (l ++ m).length size), ?_, .inr ⟨h.next, rfl, hnew (h.kill tk) _, hx.1⟩, (hx.kill hlt).trans (.new _ _)⟩
  unfold appendV
  simp only [elemsOf]
  rw [if_neg hm, if_pos hb, if_pos ⟨hsm, hsl⟩]
  simp only [htk]
  rw [if_pos ⟨trivial, trivial⟩]
theorem Acc.mono {size : Nat} {h0 h : Heap} {v : V} {l : List (List V)} (ha : Acc size h0 h v l) {h' : Heap} (hk : ∀ id, h0.next ≤ id → h.objs id ≠ none → h'.objs id = h.objs id) : Acc size h0 h' v l := by
 rcases ha with h1 | ⟨tk, h1, h2, h3⟩
 ·exact .inl h1
 ·exact .inr ⟨tk, h1, by rw [hk tk h3 (by rw [h2]; simp)]; exact h2, h3⟩
theorem Acc.retag {size : Nat} {h0 h : Heap} {v : V} {l : List (List V)} (ha : Acc size h0 h v l) : v.retag = .lst .ro (V.retagLL l) := by
 rcases ha with ⟨rfl, rfl⟩ | ⟨tk, rfl, _⟩
 ·simp [V.retag]
 ·simp [V.retag]
theorem Acc.cells {size : Nat} {h0 h : Heap} {v : V} {l : List (List V)} (ha : Acc size h0 h v l) : v.cells = some [v] := by
 rcases ha with ⟨rfl, rfl⟩ | ⟨tk, rfl, _⟩ <;> rfl

attribute [simp] runOps_nil runOps_cons stepO_plain stepO_claim stepO_guard stepO_guardc putR_some putR_none ev_t ev_c stepG_true stepG_false upd_app
attribute [simp] evalK getP putP sub madeV V.cells patch binV intBin shiftV unV wantV V.addOff fresh fillV fillL okSize hasSize elemsOf sliceV asNat V.leaf V.free V.retag V.retagL V.retagLL Claim.fits eqV eqBool eqPtr eqSlice eqAgg eqCells V.isNil V.isPtr
attribute [simp] thenW blockW initT V.under V.underL V.underLL Tag.under

end Go.LS

/- Scopes; drawn regions whose order is shown by hand. -/
namespace Go.LS

section
variable {tab : FuncId → Option AFn} {call : CallT} {Q : AExit → St → Prop} {s : St}
theorem W_scope {body cur : AC} (h : W tab cur s (fun e s' => (∀ l, e ≠ .goto l) ∧ Q e s')) : W tab (.scope body cur) s Q := by
 obtain ⟨e, s', h1, h2, h3⟩ := h
 refine ⟨e, s', ?_, h3⟩
 rw [codeD_scope, h1]
 cases e with
 | goto l => exact absurd rfl (h2 l)
 | _ => rfl
theorem W_dops {l : List AOp} {pre : List (List Nat)} {s1 : St} (h : runAny (callD tab) l pre s = some s1) (hq : Q .normal s1) : W tab (.dops l pre) s Q := ⟨_, _, by rw [codeD_dops, h], hq⟩
theorem W_rangeM {pre : List AOp} {m : Opd} {dIt dNx dOk dEn : Nat} {body : List AOp} {s1 s2 : St} {id : Nat} {k : IntKind} {f : Int → Option V} (hpre : runOps (callD tab) pre s = some s1) (hm : s1.ev m = .map (some id)) (ho : s1.h.objs id = some (.map k f)) (hen : ∃ ks, Enum f ks)
  (hall : ∀ ks, Enum f ks → rangeRun id k f s1.h.next dIt dNx dOk dEn body (rangeSt id dIt s1) ks (rangeSt id dIt s1) = some s2) (hq : Q .normal s2) : W tab (.rangeM pre m dIt dNx dOk dEn body) s Q := by
 have hex : (∃ ks, Enum f ks) ∧ ∃ s', ∀ ks, Enum f ks → rangeRun id k f s1.h.next dIt dNx dOk dEn body (rangeSt id dIt s1) ks (rangeSt id dIt s1) = some s' := ⟨hen, s2, hall⟩
 have hr : rangeAny id k f dIt dNx dOk dEn body s1 = some s2 := by
  unfold rangeAny
  rw [dif_pos hex]
  obtain ⟨ks, hk⟩ := hen
  have h1 := Classical.choose_spec hex.2 ks hk
  rw [hall ks hk] at h1
  exact h1.symm
 refine ⟨.normal, s2, ?_, hq⟩
 rw [codeD_rangeM, hpre]
 simp only [hm, ho, hr]
theorem Enum.nil : Enum (fun _ => none) [] := ⟨List.nodup_nil, fun n => by simp⟩
theorem Enum.cons {f : Int → Option V} {ks : List Int} (h : Enum f ks) {v : Int} {d : V} (hv : f v = none) : Enum (fun j => if j = v then some d else f j) (v :: ks) := by
 refine ⟨List.nodup_cons.2 ⟨fun hm => (h.2 v).1 hm hv, h.1⟩, fun n => ?_⟩
 by_cases e : n = v
 ·subst e; simp
 ·simp [e, h.2 n]
def Swap (call : CallT) (x y : AOp) : Prop := ∀ s t u, stepO call x s = some t → stepO call y t = some u → ∃ t', stepO call y s = some t' ∧ stepO call x t' = some u
theorem W_dops_swap {l : List AOp} {pre : List (List Nat)} {but : List (Nat × Nat)} (hok : ordBut l pre but = true) (hb : ∀ a i x y, (a, i) ∈ but → l[a]? = some x → l[i]? = some y → Swap (callD tab) x y) {s1 : St} (h : runOps (callD tab) l s = some s1) (hq : Q .normal s1) : W tab (.dops l pre) s Q :=
 W_dops (any_order_but (I := fun _ => True) hok (fun _ _ _ _ _ => trivial) (fun a i x y h1 h2 h3 s t u _ => hb a i x y h1 h2 h3 s t u) trivial h) hq
theorem W_callE {f : FuncId} {af : AFn} {args : List V} {h : Heap} {v : V} {R : Heap → Prop} (ht : tab f = some af) (he : af.ext = none) (hp : af.pure = false) (hfree : args.all V.free = true)
  (hw : W tab af.body ⟨initT (if af.keepA = true then args else args.map V.retag), fun _ => none, h⟩ (fun e s => (e = .normal ∨ e = .ret) ∧ ∃ vs, resV s af.res = some vs ∧ (if af.keepR = true then packV vs else (packV vs).retag) = v ∧ R s.h)) :
  ∃ h', callD tab f args h = some (v, h') ∧ R h' := by
 obtain ⟨e, s, h1, h2, vs, h3, h4, h5⟩ := hw
 exact ⟨s.h, W_callH ht he hp hfree ⟨e, s, h1, h2, vs, h3, h4, rfl⟩, h5⟩
theorem upd_swap {α : Type} (f : Nat → α) {a b : Nat} (hab : a ≠ b) (x y : α) : upd (upd f a x) b y = upd (upd f b y) a x := by
 funext j
 simp only [upd]
 by_cases h1 : j = b
 ·subst h1
  simp [Ne.symm hab]
 ·simp [h1]
def Reads (k : AK) (p : Nat) : Prop := (k = .nilchk (.t p)) ∨ (∃ n, k = .off n (.t p)) ∨ ∃ agg size, k = .load agg size (.t p)
theorem reads_step {k : AK} {p : Nat} (hk : Reads k p) {e : Nat} {s t : St} (h : stepO call ⟨some e, none, k, none⟩ s = some t) : ∃ v, t = ⟨upd s.t e v, s.loc, s.h⟩ ∧
  ∀ s2 : St, s2.t p = s.t p → s2.loc = s.loc → (∀ q r, getP s.loc s.h q = some r → getP s.loc s2.h q = some r) → stepO call ⟨some e, none, k, none⟩ s2 = some ⟨upd s2.t e v, s2.loc, s2.h⟩ := by
 rcases hk with rfl | ⟨n, rfl⟩ | ⟨agg, size, rfl⟩
 ·simp only [stepO, AOp.wanted, evalO, evalK, St.ev] at h
  split at h
  ·rename_i v loc h' he
   injection h with h
   have hs : loc = s.loc ∧ h' = s.h := by
    split at he
    ·split at he
     ·split at he
      ·simp only [Option.some.injEq, Prod.mk.injEq] at he; exact ⟨he.2.1.symm, he.2.2.symm⟩
      ·cases he
     ·cases he
    all_goals first | (simp only [Option.some.injEq, Prod.mk.injEq] at he; exact ⟨he.2.1.symm, he.2.2.symm⟩) | cases he
   obtain ⟨rfl, rfl⟩ := hs
   refine ⟨v, h.symm, fun s2 h1 h2 h3 => ?_⟩
   simp only [stepO, AOp.wanted, evalO, evalK, St.ev]
   rw [h1, h2]
   split at he
   ·split at he
    ·rename_i b' cells hl
     split at he
     ·rename_i hbb
      simp only [Option.some.injEq, Prod.mk.injEq, true_and, and_true] at he
      subst he
      simp only [St.put, h2, hbb, if_true, hl]
     ·cases he
    ·cases he
   all_goals first | (simp only [Option.some.injEq, Prod.mk.injEq, true_and, and_true] at he; subst he; simp only [St.put, h2]) | cases he
  ·cases h
 ·simp only [stepO, AOp.wanted, evalO, evalK] at h
  split at h
  ·rename_i v loc h' he
   injection h with h
   split at he
   ·rename_i v' hv'
    by_cases hfr : fresh s.loc (s.ev (.t p)) = true
    ·rw [if_pos hfr] at he
     simp only [Option.some.injEq, Prod.mk.injEq] at he
     obtain ⟨rfl, rfl, rfl⟩ := he
     refine ⟨v', h.symm, fun s2 h1 h2 h3 => ?_⟩
     have e1 : s2.ev (.t p) = s.ev (.t p) := h1
     simp only [stepO, AOp.wanted, evalO, evalK, e1, hv', h2]
     rw [if_pos hfr]
     simp only [St.put]
    ·rw [if_neg hfr] at he
     cases he
   ·cases he
  ·cases h
 ·simp only [stepO, AOp.wanted, evalO, evalK, St.ev] at h
  split at h
  ·rename_i v loc h' he
   injection h with h
   split at he
   ·rename_i cs off hg
    have hkey : ∃ v', he = he ∧ v' = v ∧ loc = s.loc ∧ h' = s.h := by
     refine ⟨v, rfl, rfl, ?_⟩
     split at he
     ·split at he
      ·simp only [Option.some.injEq, Prod.mk.injEq] at he; exact ⟨he.2.1.symm, he.2.2.symm⟩
      ·cases he
     ·split at he
      ·simp only [Option.some.injEq, Prod.mk.injEq] at he; exact ⟨he.2.1.symm, he.2.2.symm⟩
      ·cases he
    obtain ⟨_, _, _, rfl, rfl⟩ := hkey
    refine ⟨v, h.symm, fun s2 h1 h2 h3 => ?_⟩
    have hg2 : getP s2.loc s2.h (s2.t p) = some (cs, off) := by rw [h1, h2]; exact h3 _ _ hg
    simp only [stepO, AOp.wanted, evalO, evalK, St.ev, hg2]
    split at he
    ·rename_i hagg
     split at he
     ·rename_i l hl
      simp only [Option.some.injEq, Prod.mk.injEq, true_and, and_true] at he
      subst he
      simp only [hagg, if_true, hl, St.put]
     ·cases he
    ·rename_i hagg
     split at he
     ·rename_i l hl
      simp only [Option.some.injEq, Prod.mk.injEq, true_and, and_true] at he
      subst he
      simp only [hagg, hl, St.put]
      simp
     ·cases he
   ·cases he
  ·cases h
theorem getP_new {loc : Loc} {h : Heap} {k : IntKind} {f : Int → Option V} {q : V} {r : List V × Nat} (hg : getP loc (h.new (.map k f)) q = some r) : getP loc h q = some r := by
 have key : ∀ id ob, (h.new (.map k f)).objs id = some ob → (ob = .map k f) ∨ h.objs id = some ob := fun id ob ho => by
  simp only [Heap.new, upd] at ho
  split at ho
  ·injection ho with ho; exact .inl ho.symm
  ·exact .inr ho
 cases q with
 | obj id off =>
  simp only [getP] at hg ⊢
  split at hg
  ·rename_i cs ho
   rcases key id _ ho with h1 | h1
   ·cases h1
   ·rw [h1]; exact hg
  ·cases hg
 | elt id i off =>
  simp only [getP] at hg ⊢
  split at hg
  ·rename_i l ho
   rcases key id _ ho with h1 | h1
   ·cases h1
   ·rw [h1]; exact hg
  ·cases hg
 | _ => exact hg
theorem getP_set {loc : Loc} {h : Heap} {id : Nat} {k k' : IntKind} {f f' : Int → Option V} (ho : h.objs id = some (.map k f)) {q : V} {r : List V × Nat} (hg : getP loc h q = some r) : getP loc (h.set id (.map k' f')) q = some r := by
 have key : ∀ id' ob, h.objs id' = some ob → (∀ k f, ob ≠ .map k f) → (h.set id (.map k' f')).objs id' = some ob := fun id' ob h1 h2 => by
  simp only [Heap.set, upd]
  rw [if_neg]
  ·exact h1
  ·intro e
   subst e
   rw [ho] at h1
   injection h1 with h1
   exact h2 _ _ h1.symm
 cases q with
 | obj id' off =>
  simp only [getP] at hg ⊢
  split at hg
  ·rename_i cs h1
   rw [key id' _ h1 (fun _ _ => by simp)]; exact hg
  ·cases hg
 | elt id' i off =>
  simp only [getP] at hg ⊢
  split at hg
  ·rename_i l h1
   rw [key id' _ h1 (fun _ _ => by simp)]; exact hg
  ·cases hg
 | _ => exact hg
theorem swap_mkmap_read {d e p : Nat} {k : IntKind} {r : AK} (hr : Reads r p) (hde : d ≠ e) (hdp : d ≠ p) : Swap call ⟨some d, none, .mkmap k, none⟩ ⟨some e, none, r, none⟩ := by
 intro s t u h1 h2
 simp only [stepO, AOp.wanted, evalO, evalK, Option.some.injEq] at h1
 subst h1
 obtain ⟨v, rfl, hv⟩ := reads_step hr h2
 refine ⟨_, hv s (by simp [St.put, upd, Ne.symm hdp]) rfl (fun q r hq => getP_new hq), ?_⟩
 simp only [stepO, AOp.wanted, evalO, evalK, St.put]
 rw [upd_swap _ hde]
theorem mapset_step {kk : IntKind} {m : Nat} {kc : V} {v : Opd} {s t : St} (h : stepO call ⟨none, none, .mapset kk (.t m) (.c kc) v, none⟩ s = some t) : ∃ id n k' f, s.t m = .map (some id) ∧ kc = .int kk n ∧ s.h.objs id = some (.map k' f) ∧ k' = kk ∧ (s.ev v).cells.isSome = true ∧
  t = ⟨s.t, s.loc, s.h.set id (.map k' fun j => if j = n then some (s.ev v).retag else f j)⟩ := by
 simp only [stepO, AOp.wanted, evalO, evalK] at h
 split at h
 ·rename_i v' loc h' he
  injection h with h
  split at he
  ·rename_i id ik n hm hk
   have hk : kc = .int ik n := hk
   have hm : s.t m = .map (some id) := hm
   split at he
   ·rename_i k' f ho
    by_cases hc : ik = kk ∧ k' = kk ∧ (s.ev v).cells.isSome = true
    ·rw [if_pos hc] at he
     simp only [Option.some.injEq, Prod.mk.injEq] at he
     obtain ⟨rfl, rfl, rfl⟩ := he
     exact ⟨id, n, k', f, hm, by rw [hk, hc.1], ho, hc.2.1, hc.2.2, h.symm⟩
    ·rw [if_neg hc] at he
     cases he
   ·cases he
  ·cases he
 ·cases h
theorem mapset_do {kk : IntKind} {m : Nat} {n : Int} {v : Opd} {s : St} {id : Nat} {f : Int → Option V} (hm : s.t m = .map (some id)) (ho : s.h.objs id = some (.map kk f)) (hv : (s.ev v).cells.isSome = true) :
  stepO call ⟨none, none, .mapset kk (.t m) (.c (.int kk n)) v, none⟩ s = some ⟨s.t, s.loc, s.h.set id (.map kk fun j => if j = n then some (s.ev v).retag else f j)⟩ := by
 have hev1 : s.ev (.t m) = .map (some id) := hm
 have hev2 : s.ev (.c (.int kk n)) = .int kk n := rfl
 simp only [stepO, AOp.wanted, evalO, evalK, hev1, hev2, ho, true_and, hv, if_true, St.put]
theorem swap_read_mapset {e p m : Nat} {kk : IntKind} {kc : V} {v : Opd} {r : AK} (hr : Reads r p) (hem : e ≠ m) (hev : ∀ (s : St) (w : V), St.ev ⟨upd s.t e w, s.loc, s.h⟩ v = s.ev v) : Swap call ⟨some e, none, r, none⟩ ⟨none, none, .mapset kk (.t m) (.c kc) v, none⟩ := by
 intro s t u h1 h2
 obtain ⟨w, rfl, hw⟩ := reads_step hr h1
 obtain ⟨id, n, k', f, h3, rfl, h4, rfl, h5, rfl⟩ := mapset_step h2
 rw [hev] at h5
 have h3' : s.t m = .map (some id) := by simpa [upd, Ne.symm hem] using h3
 refine ⟨_, mapset_do h3' h4 h5, ?_⟩
 have := hw ⟨s.t, s.loc, s.h.set id (.map k' fun j => if j = n then some (s.ev v).retag else f j)⟩ rfl rfl (fun q r hq => getP_set h4 hq)
 rw [this]
 rw [hev]
theorem swap_mapset_mapset {m : Nat} {kk : IntKind} {n1 n2 : Int} (hn : n1 ≠ n2) {v1 v2 : Opd} (h1 : ∀ (s : St) (h : Heap), St.ev ⟨s.t, s.loc, h⟩ v1 = s.ev v1) (h2 : ∀ (s : St) (h : Heap), St.ev ⟨s.t, s.loc, h⟩ v2 = s.ev v2) :
  Swap call ⟨none, none, .mapset kk (.t m) (.c (.int kk n1)) v1, none⟩ ⟨none, none, .mapset kk (.t m) (.c (.int kk n2)) v2, none⟩ := by
 intro s t u g1 g2
 obtain ⟨id, n, k', f, a1, a2, a3, rfl, a5, rfl⟩ := mapset_step g1
 injection a2 with _ a2
 subst a2
 obtain ⟨id', n', k'', f', b1, b2, b3, rfl, b5, rfl⟩ := mapset_step g2
 injection b2 with _ b2
 subst b2
 simp only at b1 b3
 rw [a1] at b1
 injection b1 with b1
 injection b1 with b1
 subst b1
 simp only [Heap.set, upd, if_true, Option.some.injEq, AObj.map.injEq, true_and] at b3
 subst b3
 rw [h2] at b5 ⊢
 refine ⟨_, mapset_do a1 a3 b5, ?_⟩
 have := mapset_do (call := call) (kk := k'') (m := m) (n := n1) (v := v1) (s := ⟨s.t, s.loc, s.h.set id (.map k'' fun j => if j = n2 then some (s.ev v2).retag else f j)⟩) (id := id) (f := fun j => if j = n2 then some (s.ev v2).retag else f j) a1 (by simp [Heap.set, upd]) (by rw [h1]; exact a5)
 rw [this, h1]
 congr 1
 congr 1
 simp only [Heap.set]
 congr 1
 funext j
 simp only [upd]
 split
 ·congr 2
  funext i
  by_cases e1 : i = n1
  ·subst e1
   simp [hn]
  ·simp [e1]
 ·rfl
theorem callD_pure {f : FuncId} {af : AFn} {args : List V} {h h' : Heap} {v : V} (ht : tab f = some af) (he : af.ext = none) (hp : af.pure = true) (hc : callD tab f args h = some (v, h')) : h' = h := by
 have key : ∀ (x : V) (g : Heap), giveH true h x g = some (v, h') → h' = h := fun x g hg => by
  unfold giveH at hg
  rw [if_pos rfl] at hg
  split at hg
  ·injection hg with hg
   injection hg with _ hg
   exact hg.symm
  ·cases hg
 unfold callD callF at hc
 rw [ht] at hc
 simp only [he, hp] at hc
 split at hc
 ·split at hc
  ·split at hc
   ·exact key _ _ hc
   ·cases hc
  ·split at hc
   ·exact key _ _ hc
   ·cases hc
  ·cases hc
 ·cases hc
theorem swap_read_call {e d p : Nat} {r : AK} {f : FuncId} {af : AFn} {args : List Opd} (hr : Reads r p) (ht : tab f = some af) (he : af.ext = none) (hp : af.pure = true) (hed : e ≠ d) (hdp : d ≠ p)
  (hargs : ∀ (s : St) w, args.map (St.ev ⟨upd s.t e w, s.loc, s.h⟩) = args.map s.ev) : Swap (callD tab) ⟨some e, none, r, none⟩ ⟨some d, none, .call f args, none⟩ := by
 intro s t u h1 h2
 obtain ⟨w, rfl, hw⟩ := reads_step hr h1
 simp only [stepO, AOp.wanted, evalO, evalK] at h2
 split at h2
 ·rename_i v loc h' hc
  split at hc
  ·rename_i v' h'' hcall
   simp only [Option.some.injEq, Prod.mk.injEq] at hc
   obtain ⟨rfl, rfl, rfl⟩ := hc
   injection h2 with h2
   subst h2
   have hh := callD_pure ht he hp hcall
   have hh : h'' = s.h := hh
   subst hh
   rw [hargs] at hcall
   refine ⟨⟨upd s.t d v', s.loc, s.h⟩, ?_, ?_⟩
   ·simp only [stepO, AOp.wanted, evalO, evalK, hcall, St.put]
   ·rw [hw ⟨upd s.t d v', s.loc, s.h⟩ (by simp [upd, Ne.symm hdp]) rfl (fun _ _ h => h)]
    simp only [St.put]
    rw [upd_swap _ hed]
  ·cases hc
 ·cases h2

end
end Go.LS

/- Readings of plain data as abstract values. -/
namespace Go.LS
def memG (w : World) : Ghost := ⟨fun b o => w.cell? ⟨b, o, none⟩, fun _ => none⟩
theorem CR.append {G : Ghost} {a b : List V} {x y : List Value} (h : CR G a x.toArray) (k : CR G b y.toArray) : CR G (a ++ b) (x ++ y).toArray := by
 have hx : a.length = x.length := by simpa using h.size
 refine ⟨by have := k.size; simp at this ⊢; omega, fun j v hj => ?_, fun j v hj => ?_⟩
 ·by_cases hl : j < a.length
  ·rw [List.getElem?_append_left hl] at hj; exact h.leaf j v hj
  ·rw [List.getElem?_append_right (by omega)] at hj; exact k.leaf _ v hj
 ·by_cases hl : j < a.length
  ·rw [List.getElem?_append_left hl] at hj
   have := h.rel j v hj
   simp only [Array.getD_eq_getD_getElem?, List.getElem?_toArray] at this ⊢
   rw [List.getElem?_append_left (by omega)]
   exact this
  ·rw [List.getElem?_append_right (by omega)] at hj
   have := k.rel _ v hj
   simp only [Array.getD_eq_getD_getElem?, List.getElem?_toArray] at this ⊢
   rw [List.getElem?_append_right (by omega), ← hx]
   exact this
theorem CR.none (G : Ghost) : CR G [] (#[] : Array Value) := ⟨rfl, fun _ _ h => by simp at h, fun _ _ h => by simp at h⟩
theorem CR.one {G : Ghost} {v : V} {c : Value} (h : R G v c) (hl : v.leaf = true) : CR G [v] #[c] := by
 refine ⟨rfl, fun j x hx => ?_, fun j x hx => ?_⟩
 ·cases j with
  | zero => simp at hx; subst hx; exact hl
  | succ j => simp at hx
 ·cases j with
  | zero => simp at hx; subst hx; exact h
  | succ j => simp at hx
def Told (P : Program) (w : World) {α : Type} (t : TypeId) (enc : α → List V) (ok : α → Prop) : Prop :=
 ∀ (H : Type) (eh : TypeId × Value → H) (base : Nat) (sp : Nat → Bool) (held : Bool) (fuel : Nat) (cs : List Value) (x : DataW H × List MemPlace),
  DataW.trod eh P w base sp held fuel t cs = some x → ∃ a, CR (memG w) (enc a) cs.toArray ∧ ok a

section
variable {P : Program} {w : World} {α β : Type}
theorem Told.map {t : TypeId} {enc : α → List V} {ok : α → Prop} {enc' : β → List V} {ok' : β → Prop} (h : Told P w t enc ok) (g : α → β) (he : ∀ a, enc' (g a) = enc a) (ho : ∀ a, ok a → ok' (g a)) : Told P w t enc' ok' := by
 intro H eh base sp held fuel cs x hx
 obtain ⟨a, h1, h2⟩ := h H eh base sp held fuel cs x hx
 exact ⟨g a, by rw [he]; exact h1, ho a h2⟩
theorem Told_int {t : TypeId} {k : IntKind} (ht : P.underlying t = some (.int k)) : Told P w t (fun n : Int => [.int k n]) (fun n => (Lit.int k n).wf = true) := by
 intro H eh base sp held fuel cs x hx
 obtain ⟨n, rfl, _, h⟩ := DataW.trod_int ht hx
 exact ⟨n, CR.one (.int _ n) rfl, h⟩
theorem Told_bool {t : TypeId} (ht : P.underlying t = some .bool) : Told P w t (fun b : Bool => [.bool b]) (fun _ => True) := by
 intro H eh base sp held fuel cs x hx
 obtain ⟨b, rfl, _⟩ := DataW.trod_bool ht hx
 exact ⟨b, CR.one (.bool b) rfl, trivial⟩
theorem mapM_range {β : Type} (f : Nat → Option β) : ∀ (n : Nat) (l : List β), (List.range n).mapM f = some l → l.length = n ∧ ∀ i, i < n → ∃ y, l[i]? = some y ∧ f i = some y
 | 0, l, h => by simp at h; subst h; simp
 | n + 1, l, h => by
  rw [List.range_succ, List.mapM_append] at h
  simp only [Option.bind_eq_bind, Option.bind_eq_some_iff, Option.pure_def, Option.some.injEq, List.mapM_cons, List.mapM_nil] at h
  obtain ⟨l1, h1, l2, ⟨y, h2, l3, rfl, rfl⟩, rfl⟩ := h
  obtain ⟨e1, e2⟩ := mapM_range f n l1 h1
  refine ⟨by simp [e1], fun i hi => ?_⟩
  by_cases hin : i < n
  ·obtain ⟨y', h3, h4⟩ := e2 i hin
   exact ⟨y', by rw [List.getElem?_append_left (by omega)]; exact h3, h4⟩
  ·have : i = n := by omega
   subst this
   exact ⟨y, by rw [List.getElem?_append_right (by omega), e1]; simp, h2⟩
theorem exists_list {β γ : Type} {p : Nat → β → γ → Prop} : ∀ (l : List β), (∀ i y, l[i]? = some y → ∃ a, p i y a) → ∃ as : List γ, as.length = l.length ∧ ∀ i y a, l[i]? = some y → as[i]? = some a → p i y a
 | [], _ => ⟨[], rfl, fun _ _ _ h => by simp at h⟩
 | y :: l, h => by
  obtain ⟨a, ha⟩ := h 0 y rfl
  obtain ⟨as, h1, h2⟩ := exists_list (p := fun i => p (i + 1)) l (fun i z hz => h (i + 1) z hz)
  refine ⟨a :: as, by simp [h1], fun i z b hz hb => ?_⟩
  cases i with
  | zero => simp at hz hb; subst hz hb; exact ha
  | succ i => exact h2 i z b hz hb
theorem Told_slice {t e : TypeId} {enc : α → List V} {ok : α → Prop} (ht : P.underlying t = some (.slice e)) (hpos : 0 < P.cellsOf e) (h : Told P w e enc ok) :
  Told P w t (fun l : List α => [.lst .ro (l.map enc)]) (fun l => l.length ≤ maxLen ∧ ∀ a ∈ l, ok a) := by
 intro H eh base sp held fuel cs x hx
 rcases DataW.trod_slice ht hx with ⟨rfl, _⟩ | ⟨a, len, cap, elems, rest, n, _, rfl, _, _, h1, h2, h3, h4, _, _⟩
 ·refine ⟨[], CR.one ?_ rfl, by simp, by simp⟩
  exact .lst (b := 0) (o := 0) (s := 0) (fun _ _ => undef) rfl (Nat.le_refl _) (fun hne => absurd rfl hne) trivial (fun i e hi => by simp at hi) (fun i e j y hi => by simp at hi) (fun i e j y hi => by simp at hi) (fun i e j y hi => by simp at hi)
 ·have key : ∀ i y, elems[i]? = some y → ∃ b : α, ∃ cs' : List Value, w.cells? base (a.add (i * P.cellsOf e)) (P.cellsOf e) = some cs' ∧ CR (memG w) (enc b) cs'.toArray ∧ ok b := fun i y hy => by
   have hi : i < len := by rw [← h3]; exact (List.getElem?_eq_some_iff.1 hy).1
   have h5 := h4 i hi
   rw [hy, Option.bind_eq_some_iff] at h5
   obtain ⟨cs', h6, h7⟩ := h5
   obtain ⟨b, h8, h9⟩ := h H eh base sp held n cs' y h7
   exact ⟨b, cs', h6, h8, h9⟩
  obtain ⟨as, e1, e2⟩ := exists_list elems key
  have elem : ∀ (i : Nat) (b : α), as[i]? = some b → ∃ cs' : List Value, w.cells? base (a.add (i * P.cellsOf e)) (P.cellsOf e) = some cs' ∧ CR (memG w) (enc b) cs'.toArray ∧ ok b := fun i b hb => by
   have hi : i < elems.length := by rw [← e1]; exact (List.getElem?_eq_some_iff.1 hb).1
   exact e2 i elems[i] b (by simp [hi]) hb
  have hspot : as ≠ [] → a = ⟨a.block, a.off, none⟩ := fun hne => by
   cases as with
   | nil => exact absurd rfl hne
   | cons b0 as =>
    obtain ⟨cs', g1, g2, _⟩ := elem 0 b0 rfl
    unfold World.cells? at g1
    split at g1
    ·obtain ⟨g3, g4⟩ := mapM_range _ _ _ g1
     obtain ⟨c, _, g6⟩ := g4 0 hpos
     have e0 : (a.add (0 * P.cellsOf e)).add 0 = a := by simp [Addr.add]
     rw [e0] at g6
     unfold World.cell? at g6
     split at g6
     ·split at g6
      ·cases g6
      ·rename_i hsp
       obtain ⟨b1, o1, s1⟩ := a
       cases s1 with
       | none => rfl
       | some s => simp at hsp
     ·cases g6
    ·cases g1
  have hadd : as ≠ [] → ∀ i j, (a.add i).add j = ⟨a.block, a.off + (i + j), none⟩ := fun hne i j => by
   rw [hspot hne]
   simp only [Addr.add_lit, Nat.add_assoc]
  have cell : ∀ (i : Nat) (b : α) (j : Nat) (v : V), as[i]? = some b → (enc b)[j]? = some v → ∃ c, w.cell? ⟨a.block, a.off + (i * P.cellsOf e + j), none⟩ = some c ∧ v.leaf = true ∧ R (memG w) v c := fun i b j v hb hv => by
   have hne : as ≠ [] := fun e0 => by rw [e0] at hb; simp at hb
   obtain ⟨cs', g1, g2, _⟩ := elem i b hb
   unfold World.cells? at g1
   split at g1
   ·obtain ⟨g3, g4⟩ := mapM_range _ _ _ g1
    have hj : j < P.cellsOf e := by
     have := g2.size
     simp at this
     rw [← g3, ← this]
     exact (List.getElem?_eq_some_iff.1 hv).1
    obtain ⟨c, g5, g6⟩ := g4 j hj
    rw [hadd hne] at g6
    refine ⟨c, g6, g2.leaf j v hv, ?_⟩
    have := g2.rel j v hv
    simp only [Array.getD_eq_getD_getElem?, List.getElem?_toArray, g5, Option.getD_some] at this
    exact this
   ·cases g1
  refine ⟨as, CR.one ?_ rfl, by show as.length ≤ maxLen; omega, fun b hb => ?_⟩
  rotate_left
  ·obtain ⟨i, hi⟩ := List.getElem?_of_mem hb
   obtain ⟨_, _, _, g⟩ := elem i b hi
   exact g
  ·skip
   refine R.lst_mk (b := a.block) (o := a.off) (s := P.cellsOf e) (fun i j => (w.cell? ⟨a.block, a.off + (i * P.cellsOf e + j), none⟩).getD undef) (by rw [List.length_map]; omega) h1 ?_ trivial (fun i l hl => ?_) (fun i l j v hl hv => ?_)
   ·intro hne
    rw [← hspot (by simpa using hne)]
   ·rw [List.getElem?_map, Option.map_eq_some_iff] at hl
    obtain ⟨b, hb, rfl⟩ := hl
    obtain ⟨cs', g1, g2, _⟩ := elem i b hb
    have := g2.size
    simp at this
    rw [this]
    unfold World.cells? at g1
    split at g1
    ·exact (mapM_range _ _ _ g1).1
    ·cases g1
   ·rw [List.getElem?_map, Option.map_eq_some_iff] at hl
    obtain ⟨b, hb, rfl⟩ := hl
    obtain ⟨c, g1, g2, g3⟩ := cell i b j v hb hv
    refine ⟨?_, g2, ?_⟩
    ·simp only [memG, g1, Option.getD_some]
     rw [Nat.add_assoc]
     exact g1
    ·simp only [g1, Option.getD_some]; exact g3
def ToldF (P : Program) (w : World) {α : Type} (tot off : Nat) (fs : List Field) (enc : α → List V) (ok : α → Prop) : Prop :=
 ∀ (H : Type) (eh : TypeId × Value → H) (base : Nat) (sp : Nat → Bool) (held : Bool) (n : Nat) (cs : List Value) (xs : List (DataW H × List MemPlace)), cs.length = tot →
  fs.mapM (fun f => DataW.trod eh P w base sp held n f.type ((cs.drop f.offset).take (P.cellsOf f.type))) = some xs → ∃ a, CR (memG w) (enc a) (cs.drop off).toArray ∧ ok a
theorem ToldF_nil {tot : Nat} : ToldF P w tot tot [] (fun _ : Unit => []) (fun _ => True) := by
 intro H eh base sp held n cs xs hl hx
 refine ⟨(), ?_, trivial⟩
 rw [List.drop_eq_nil_of_le (by omega)]
 exact CR.none _
theorem ToldF_cons {tot off : Nat} {f : Field} {fs : List Field} {enc : α → List V} {ok : α → Prop} {enc' : β → List V} {ok' : β → Prop} (ho : f.offset = off) (h : Told P w f.type enc ok)
  (hr : ToldF P w tot (off + P.cellsOf f.type) fs enc' ok') : ToldF P w tot off (f :: fs) (fun p : α × β => enc p.1 ++ enc' p.2) (fun p => ok p.1 ∧ ok' p.2) := by
 intro H eh base sp held n cs xs hl hx
 rw [List.mapM_cons] at hx
 simp only [Option.bind_eq_bind, Option.bind_eq_some_iff, Option.pure_def, Option.some.injEq] at hx
 obtain ⟨x, h1, ys, h2, rfl⟩ := hx
 obtain ⟨a, c1, o1⟩ := h H eh base sp held n _ x h1
 obtain ⟨b, c2, o2⟩ := hr H eh base sp held n cs ys hl h2
 refine ⟨(a, b), ?_, o1, o2⟩
 have : cs.drop off = (cs.drop f.offset).take (P.cellsOf f.type) ++ cs.drop (off + P.cellsOf f.type) := by
  rw [ho, ← List.drop_drop, List.take_append_drop]
 rw [this]
 exact c1.append c2
theorem mapM_some {β γ : Type} (f : β → Option γ) : ∀ (l : List β) (ys : List γ), ys.length = l.length → (∀ (i : Nat) (b : β), l[i]? = some b → f b = ys[i]?) → l.mapM f = some ys
 | [], ys, hl, _ => by cases ys with | nil => rfl | cons _ _ => cases hl
 | b :: l, ys, hl, h => by
  cases ys with
  | nil => cases hl
  | cons y ys =>
   rw [List.mapM_cons, h 0 b rfl, mapM_some f l ys (by simpa using hl) (fun i c hc => h (i + 1) c hc)]
   rfl
theorem Told_struct {t : TypeId} {fs : Array Field} {enc : α → List V} {ok : α → Prop} (ht : P.underlying t = some (.struct fs)) (h : ToldF P w (P.cellsOf t) 0 fs.toList enc ok) : Told P w t enc ok := by
 intro H eh base sp held fuel cs x hx
 obtain ⟨xs, n, _, _, h1, h2, h3⟩ := DataW.trod_struct ht hx
 obtain ⟨a, c, o⟩ := h H eh base sp held n cs xs h1 (mapM_some _ _ _ (by simpa using h2) (fun i f hf => h3 i f (by simpa using hf)))
 exact ⟨a, by simpa using c, o⟩
theorem Told_struct' {t : TypeId} {fs : List Field} {tot : Nat} {enc : α → List V} {ok : α → Prop} (ht : P.underlying t = some (.struct fs.toArray)) (hC : P.cellsOf t = tot) (h : ToldF P w tot 0 fs enc ok) : Told P w t enc ok := by
 subst hC
 exact Told_struct ht h
theorem ToldF_cons' {tot off off' k : Nat} {f : Field} {fs : List Field} {enc : α → List V} {ok : α → Prop} {enc' : β → List V} {ok' : β → Prop} (ho : f.offset = off) (hC : P.cellsOf f.type = k) (h : Told P w f.type enc ok) (hk : off + k = off')
  (hr : ToldF P w tot off' fs enc' ok') : ToldF P w tot off (f :: fs) (fun p : α × β => enc p.1 ++ enc' p.2) (fun p => ok p.1 ∧ ok' p.2) := by
 subst hC hk
 exact ToldF_cons ho h hr
theorem Told.agg {t : TypeId} {fs : Array Field} {enc : α → List V} {ok : α → Prop} (h : Told P w t enc ok) (ht : P.underlying t = some (.struct fs)) {H : Type} {eh : TypeId × Value → H} {r : Reach} {b0 base : Nat} {sp : Nat → Bool} {held : Bool} {v : Value} {d : DataW H} {ps : List MemPlace}
  {w1 : World} (hval : Value.okWide P w1 r b0 t v) (hd : DataW.Trod eh P w base sp held t v d ps) : ∃ a, R (memG w) (.agg (enc a)) v ∧ ok a := by
 obtain ⟨cs, rfl, _⟩ := Go.WideShapes.okWide_struct ht hval
 obtain ⟨fuel, hf⟩ := hd
 obtain ⟨a, c, o⟩ := h H eh base sp held fuel _ _ hf
 have c : CR (memG w) (enc a) cs := by simpa [Value.cells] using c
 exact ⟨a, .agg c.size c.leaf c.rel, o⟩
theorem told_int {t : TypeId} {k : IntKind} (ht : P.underlying t = some (.int k)) {H : Type} {eh : TypeId × Value → H} {r : Reach} {b0 base : Nat} {sp : Nat → Bool} {held : Bool} {v : Value} {d : DataW H} {ps : List MemPlace}
  (hval : Value.okWide P w r b0 t v) (hd : DataW.Trod eh P w base sp held t v d ps) : ∃ n : Int, R (memG w) (.int k n) v ∧ (Lit.int k n).wf = true := by
 obtain ⟨n, rfl, _, _, hwf⟩ := Go.ChangeShapes.open_int ht hval hd
 exact ⟨n, .int k n, hwf⟩
def others (w : World) (b : Nat) : Option Obj :=
 match w.heap[b]? with
 | some (.cells _ _ _) => none
 | o => o
theorem others_some {w : World} {b : Nat} {o : Obj} (h : others w b = some o) : w.heap[b]? = some o ∧ ∀ q, (memG w).M b q = none := by
 unfold others at h
 split at h
 ·cases h
 ·rename_i hn
  refine ⟨h, fun q => ?_⟩
  simp only [memG, World.cell?]
theorem call_reads {tab : FuncId → Option AFn} (ht : TabOK P tab) {f : FuncId} {args : List V} {v : V} {h' : Heap} (hrun : callD tab f args ⟨fun _ => none, 0⟩ = some (v, h')) {cargs : Array Value} (hlen : args.length = cargs.size)
  (hargs : ∀ (j : Nat) (x : V), args[j]? = some x → R (memG w) x (cargs.getD j Go.undef)) :
  Calls P f cargs w fun e w' => ∃ cv G', e = .returned cv ∧ R G' v cv ∧ Go.RowKit.Below w.heap.size w w' := by
 obtain ⟨fn, _, _, _, h4⟩ := callD_sound ht f args _ v h' hrun
 refine (h4 (others w) w (memG w) w cargs ⟨fun b o c hc => hc, fun id ob hob => (by cases hob), fun id _ => rfl, fun id id' ob ob' r r' ho => (by cases ho)⟩
  (fun b o hb => ⟨(others_some hb).1, fun id ob r ho => (by cases ho), (others_some hb).2⟩) (.refl w) hlen (fun j x hx _ => hargs j x hx)).mono ?_
 rintro e w' ⟨cv, G', rfl, hG, hi, hf, hsame, hv⟩
 obtain ⟨s1, s2, s3, s4⟩ := hsame
 have block : ∀ (k : Nat) (o : Obj), w.heap[k]? = some o → w'.heap[k]? = some o := fun k o hk => by
  cases o with
  | cells cs ty fr =>
   obtain ⟨cs', h1, h2⟩ := s4 k cs ty fr hk
   have : cs' = cs := by
    apply Array.ext h2
    intro i i1 i2
    have h3 : (memG w).M k i = some cs[i] := by simp [memG, World.cell?, hk, i2]
    have h5 := hi.imm _ _ _ (hG.m _ _ _ h3)
    simp [World.cell?, h1, i1] at h5
    exact h5
   rw [h1, this]
  | _ => exact (hf k _ (by unfold others; rw [hk])).1
 refine ⟨cv, G', rfl, hv, s1, s2, s3, ?_, fun k hk => ?_⟩
 ·rcases Nat.eq_zero_or_pos w.heap.size with h0 | h0
  ·omega
  ·have hl : w.heap[w.heap.size - 1]? = some w.heap[w.heap.size - 1] := by simp
   have := (Array.getElem?_eq_some_iff.1 (block _ _ hl)).1
   omega
 ·have hl : w.heap[k]? = some w.heap[k] := by simp [hk]
  rw [hl, block _ _ hl]

end
theorem post_of_below {H : Type} {enc : TypeId × Value → H} {P : Program} {f : Func} {s : ChangeSpec} {apart fresh handsOn again : Bool} {W W' : World} {args : Array Value} {v : Value} {ds gs : List (DataW H)} {before pa pv : List MemPlace}
  (hW : DataW.Whole enc P f.params.toList s.vars apart W args.toList ds gs before)
  (hres : ∀ (b : Nat) (sp : Nat → Bool) (hd : Bool), DataW.TrodAll enc P W' b sp hd f.resultTypes.toList (v.resultList f.resultTypes.size) (s.fn H (ds ++ gs)).results [])
  (hargs : ∀ sp : Nat → Bool, (∀ p ∈ before, sp p.block = true) → DataW.TrodAll enc P W' 0 sp true f.params.toList args.toList (s.fn H (ds ++ gs)).args pa)
  (hvars : ∀ sp : Nat → Bool, (∀ p ∈ before, sp p.block = true) → DataW.TrodVars enc P W' sp s.vars (s.fn H (ds ++ gs)).vars pv)
  (hps : before = pa ++ pv) (hb : Go.RowKit.Below W.heap.size W W')
  (hok : ∀ (j : Nat) (t : TypeId) (r : Value), f.resultTypes[j]? = some t → (v.resultList f.resultTypes.size)[j]? = some r → Value.okWide P W' .any 0 t r) :
  s.post enc P f apart fresh handsOn again W args v W' := by
 have hold : ∀ p ∈ before, (fun b => decide (b < W.heap.size)) p.block = true := fun p hp => by simpa using hW.lt p hp
 have hlt := hW.lt
 refine ⟨ds, gs, before, [], pa, pv, hW, hres _ _ _, hargs _ hold, hvars _ hold, hb.frame _, fun _ => ?_⟩
 obtain ⟨_, _, _, _, _, hz, hn⟩ := hW
 refine ⟨hok, _, _, ([] ++ pa) ++ pv, ⟨[] ++ pa, pv, Go.ChangeShapes.trodAll_append (hargs _ (fun _ _ => rfl)) (hres _ _ _), hvars _ (fun _ _ => rfl), rfl, ?_, ?_⟩, ?_⟩
 ·intro b off hp
  have hp : MemPlace.cell b off ∈ before := by rw [hps]; simpa using hp
  rw [hb.frozen (hlt _ hp)]
  exact hz b off hp
 ·intro ha
  have := hn ha
  rw [hps] at this
  simpa using this
 ·intro p hp _
  rw [hps]
  simpa using hp

end Go.LS
