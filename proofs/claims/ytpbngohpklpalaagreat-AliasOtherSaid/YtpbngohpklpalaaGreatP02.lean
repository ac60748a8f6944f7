/- A part of the proof: an abstract machine for the program's code and what each of its functions comes to there. No conditions. -/
import Derived.Test.YtpbngohpklpalaaGreatP01

set_option linter.unusedSimpArgs false
set_option linter.unusedVariables false

/- Each operation of compact code does what the model's operation does: addresses, reads, slices. -/
namespace Go.LS
def aggB (P : Program) (t : TypeId) : Option Bool :=
 match P.underlying t with
 | some (.struct _) => some true
 | some (.array _ _) => some true
 | some _ => some false
 | none => none
def sizeB (P : Program) (t : TypeId) : Option Nat := (P.info? t).map (·.size)

section
variable {P : Program} {o : Oper}
theorem run_isAgg {t : TypeId} {b : Bool} (h : aggB P t = some b) (w : World) : (isAgg t).run P w = .ok b w := by
 unfold aggB at h
 split at h
 ·rename_i hu; injection h with h; subst h; simp [isAgg, run_underlying hu]
 ·rename_i hu; injection h with h; subst h; simp [isAgg, run_underlying hu]
 ·rename_i d h1 h2 hu
  injection h with h; subst h
  simp only [isAgg, Sem.run_bind, run_underlying hu, Result.andThen_ok]
  rfl
 ·cases h
theorem run_sizeB {t : TypeId} {n : Nat} (h : sizeB P t = some n) (w : World) : (sizeOf t).run P w = .ok n w := by
 unfold sizeB at h
 cases hi : P.info? t with
 | none => rw [hi] at h; cases h
 | some i => rw [hi] at h; injection h with h; simp [sizeOf, typeInfo, hi, h]
theorem SR.getP {F : Nat → Option Obj} {w0 : World} {N : Nat} {G : Ghost} {lam : Lam} {s : St} {a : Act} {w : World} (hs : SR F w0 N G lam s a w) {p : V} {c : Value} (hp : RT G lam p c)
  {cs : List V} {off : Nat} (hg : getP s.loc s.h p = some (cs, off)) :
  ∃ b q, c = .pointer (some ⟨b, q + off, none⟩) ∧ ∀ (j : Nat) (x : V), cs[j]? = some x → x.leaf = true ∧ ∃ u, w.cell? ⟨b, q + j, none⟩ = some u ∧ R G x u := by
 cases p with
 | loc sl ver off' =>
  simp only [Go.LS.getP] at hg
  obtain ⟨cv, B, h1, h2, h3⟩ := hp
  split at hg
  ·rename_i ver' cs' hl
   split at hg
   ·rename_i hv
    subst hv
    injection hg with hg
    injection hg with hg1 hg2
    subst hg1 hg2
    obtain ⟨B', ca, ty, h4, h5, h6⟩ := hs.locs.val _ _ _ hl
    rw [h1] at h4
    injection h4 with h4
    injection h4 with h4 h4'
    subst h4 h4'
    refine ⟨B, 0, by rw [h3 rfl]; simp, fun j x hx => ⟨h6.leaf j x hx, ?_⟩⟩
    have hj : j < ca.size := by rw [← h6.size]; exact (List.getElem?_eq_some_iff.1 hx).1
    refine ⟨ca.getD j undef, ?_, h6.rel j x hx⟩
    rw [cell_heap]
    exact ⟨ca, ty, _, h5, by simp [hj]⟩
   ·cases hg
  ·cases hg
 | obj id off' =>
  simp only [Go.LS.getP] at hg
  split at hg
  ·rename_i cs' hl
   injection hg with hg
   injection hg with hg1 hg2
   subst hg1 hg2
   obtain ⟨r, h1, ca, ty, h5, h6, _⟩ := hs.inv.obj _ _ hl
   have hp : R G _ _ := hp
   cases hp with
   | obj h =>
    rw [h1] at h
    injection h with h
    subst h
    refine ⟨r.b, 0, by simp, fun j x hx => ⟨h6.leaf j x hx, ?_⟩⟩
    have hj : j < ca.size := by rw [← h6.size]; exact (List.getElem?_eq_some_iff.1 hx).1
    refine ⟨ca.getD j undef, ?_, h6.rel j x hx⟩
    rw [cell_heap]
    exact ⟨ca, ty, _, h5, by simp [hj]⟩
  ·cases hg
 | elt id i off' =>
  simp only [Go.LS.getP] at hg
  split at hg
  ·rename_i l hl
   split at hg
   ·rename_i e hi
    injection hg with hg
    injection hg with hg1 hg2
    subst hg1 hg2
    obtain ⟨r, h1, ca, ty, h5, h6, h7, h8, _⟩ := hs.inv.obj _ _ hl
    have hp : R G _ _ := hp
    cases hp with
    | elt h =>
     rw [h1] at h
     injection h with h
     subst h
     obtain ⟨he, h9⟩ := h8 _ _ hi
     refine ⟨r.b, i * r.s, rfl, fun j x hx => ⟨(h9 j x hx).1, ?_⟩⟩
     have hj : j < r.s := by rw [← he]; exact (List.getElem?_eq_some_iff.1 hx).1
     have hi' : i < r.cap := Nat.lt_of_lt_of_le (List.getElem?_eq_some_iff.1 hi).1 h7
     have hlt : i * r.s + j < ca.size := by
      have : (i + 1) * r.s ≤ r.cap * r.s := Nat.mul_le_mul_right _ hi'
      rw [Nat.add_mul, Nat.one_mul] at this
      omega
     refine ⟨ca.getD (i * r.s + j) undef, ?_, (h9 j x hx).2⟩
     rw [cell_heap]
     exact ⟨ca, ty, _, h5, by simp [hlt]⟩
   ·cases hg
  ·cases hg
 | imm cells off' =>
  simp only [Go.LS.getP, Option.some.injEq, Prod.mk.injEq] at hg
  obtain ⟨rfl, rfl⟩ := hg
  have hp : R G _ _ := hp
  cases hp with
  | imm c hM hl hR => exact ⟨_, _, rfl, fun j x hx => ⟨hl j x hx, c j, hs.inv.imm _ _ _ (hM j x hx), hR j x hx⟩⟩
 | _ => simp [Go.LS.getP] at hg
theorem run_load_cells {w : World} {b q : Nat} (n : Nat) (f : Nat → Value) (h : ∀ j, j < n → w.cell? ⟨b, q + j, none⟩ = some (f j)) :
  (loadCells ⟨b, q, none⟩ n).run P w = .ok ((List.range n).map f).toArray w :=
 run_loadCells w _ n f (fun j hj => by rw [Addr.add_lit]; exact h j hj)
theorem sub_spec {cs l : List V} {off n : Nat} (h : sub cs off n = some l) : l.length = n ∧ ∀ j, j < n → l[j]? = cs[off + j]? := by
 unfold sub at h
 split at h
 ·injection h with h
  subst h
  refine ⟨by simp; omega, fun j hj => ?_⟩
  rw [List.getElem?_take, if_pos hj, List.getElem?_drop]
 ·cases h
theorem ok_load {t : TypeId} {p : Operand} {p' : Opd} {agg : Bool} {size : Nat} (ho : o.op = .load t p) (hp : okOpd p p' = true) (ha : aggB P t = some agg) (hsz : agg = true → sizeB P t = some size) :
  OpOK P o (.load agg size p') := by
 intro F w0 N G lam s a w hs call v loc h he
 have hr := hs.ev hp
 simp only [evalK] at he
 split at he
 ·rename_i cs off hg
  obtain ⟨b, q, hc, hcell⟩ := hs.getP hr hg
  split at he
  ·rename_i hagg
   subst hagg
   split at he
   ·rename_i l hl
    simp only [Option.some.injEq, Prod.mk.injEq] at he
    obtain ⟨rfl, rfl, rfl⟩ := he
    obtain ⟨hlen, hget⟩ := sub_spec hl
    have hx : ∀ j, j < size → ∃ x u, l[j]? = some x ∧ x.leaf = true ∧ w.cell? ⟨b, q + off + j, none⟩ = some u ∧ R G x u := by
     intro j hj
     have hj' : j < l.length := by omega
     have e := hget j hj
     rw [List.getElem?_eq_getElem hj'] at e
     obtain ⟨h1, u, h2, h3⟩ := hcell (off + j) _ e.symm
     exact ⟨_, u, List.getElem?_eq_getElem hj', h1, by rw [Nat.add_assoc]; exact h2, h3⟩
    let f : Nat → Value := fun j => (w.cell? ⟨b, q + off + j, none⟩).getD undef
    have hf : ∀ j, j < size → w.cell? ⟨b, q + off + j, none⟩ = some (f j) := fun j hj => by
     obtain ⟨x, u, _, _, h2, _⟩ := hx j hj
     simp [f, h2]
    refine ⟨.agg ((List.range size).map f).toArray, w, .inl ?_, hs.out (RT.to ?_)⟩
    ·simp only [execOp, ho, Instr.loadAt, hc, Instr.sureAddr, loadVar]
     simp [run_isAgg ha, run_sizeB (hsz rfl), run_load_cells size f hf]
    ·refine .agg (by simp [hlen]) (fun j x hxj => ?_) (fun j x hxj => ?_)
     ·obtain ⟨x', u, h1, h2, _⟩ := hx j (by rw [← hlen]; exact (List.getElem?_eq_some_iff.1 hxj).1)
      rw [h1] at hxj; injection hxj with hxj; subst hxj; exact h2
     ·have hj : j < size := by rw [← hlen]; exact (List.getElem?_eq_some_iff.1 hxj).1
      obtain ⟨x', u, h1, h2, h3, h4⟩ := hx j hj
      rw [h1] at hxj; injection hxj with hxj; subst hxj
      have : f j = u := by simp [f, h3]
      simp [hj, this, h4]
   ·cases he
  ·rename_i hagg
   have hagg : agg = false := by simpa using hagg
   subst hagg
   split at he
   ·rename_i x hx
    simp only [Option.some.injEq, Prod.mk.injEq] at he
    obtain ⟨rfl, rfl, rfl⟩ := he
    obtain ⟨h1, u, h2, h3⟩ := hcell off _ hx
    refine ⟨u, w, .inl ?_, hs.out (RT.to h3)⟩
    simp only [execOp, ho, Instr.loadAt, hc, Instr.sureAddr, loadVar]
    simp [run_isAgg ha, h2]
   ·cases he
 ·cases he
theorem addOff_rel {G : Ghost} {lam : Lam} {p v : V} {c : Value} {n : Nat} (hp : RT G lam p c) (h : p.addOff n = some v) :
  (∃ b q, c = .pointer (some ⟨b, q, none⟩) ∧ RT G lam v (.pointer (some ⟨b, q + n, none⟩))) ∨ (∃ sl ver off, p = .loc sl ver off) := by
 cases p with
 | loc sl ver off => exact .inr ⟨sl, ver, off, rfl⟩
 | obj id off =>
  injection h with h; subst h
  have hp : R G _ _ := hp
  cases hp with
  | obj h => exact .inl ⟨_, _, rfl, RT.to (.obj h)⟩
 | elt id i off =>
  injection h with h; subst h
  have hp : R G _ _ := hp
  cases hp with
  | elt h => exact .inl ⟨_, _, rfl, by rw [Nat.add_assoc]; exact RT.to (.elt h)⟩
 | imm cs off =>
  injection h with h; subst h
  have hp : R G _ _ := hp
  cases hp with
  | imm c hM hl hR => exact .inl ⟨_, _, rfl, by rw [Nat.add_assoc]; exact RT.to (.imm c hM hl hR)⟩
 | _ => cases h
theorem SR.addOff {F : Nat → Option Obj} {w0 : World} {N : Nat} {G : Ghost} {lam : Lam} {s : St} {a : Act} {w : World} (hs : SR F w0 N G lam s a w) {p v : V} {c : Value} {n : Nat}
  (hp : RT G lam p c) (h : p.addOff n = some v) (hf : fresh s.loc p = true) : ∃ b q, c = .pointer (some ⟨b, q, none⟩) ∧ RT G lam v (.pointer (some ⟨b, q + n, none⟩)) := by
 rcases addOff_rel hp h with h1 | ⟨sl, ver, off, rfl⟩
 ·exact h1
 ·injection h with h; subst h
  obtain ⟨cv, B, h1, h2, h3⟩ := hp
  simp only [fresh] at hf
  split at hf
  ·rename_i v' cs hl
   obtain ⟨B', cs', ty, h4, _⟩ := hs.locs.val _ _ _ hl
   rw [h1] at h4
   injection h4 with h4
   injection h4 with h4 h5
   have hv : v' = ver := by simpa using hf
   have he : ver = cv := by omega
   exact ⟨B, off, h3 he, cv, B, h1, h2, fun _ => rfl⟩
  ·cases hf

def fieldB (P : Program) (t : TypeId) (i : Nat) : Option (Nat × Nat × Bool) :=   -- offset, size, is it of many cells?
 match P.underlying t with
 | some (.struct fs) => match fs[i]? with
  | some f => match sizeB P f.type, aggB P f.type with
   | some n, some b => some (f.offset, n, b)
   | _, _ => none
  | none => none
 | _ => none
theorem ok_off {t : TypeId} {p : Operand} {p' : Opd} {i n : Nat} (ho : o.op = .fieldAddr t p i) (hp : okOpd p p' = true) (hf : ∃ sz b, fieldB P t i = some (n, sz, b) ∧ sz ≠ 0) : OpOK P o (.off n p') := by
 intro F w0 N G lam s a w hs call v loc h he
 have hr := hs.ev hp
 simp only [evalK] at he
 split at he
 ·rename_i v' hv
  split at he
  ·rename_i hfr
   simp only [Option.some.injEq, Prod.mk.injEq] at he
   obtain ⟨rfl, rfl, rfl⟩ := he
   obtain ⟨b, q, hc, hrel⟩ := hs.addOff hr hv hfr
   obtain ⟨sz, ag, hfb, hsz⟩ := hf
   unfold fieldB at hfb
   split at hfb
   ·rename_i fs hu
    split at hfb
    ·rename_i f hfi
     split at hfb
     ·rename_i n' b' h1 h2
      simp only [Option.some.injEq, Prod.mk.injEq] at hfb
      obtain ⟨rfl, rfl, rfl⟩ := hfb
      refine ⟨_, w, .inl ?_, hs.out hrel⟩
      simp [execOp, ho, Instr.fieldAt, run_underlying hu, hfi, hc, Instr.sureAddr, fieldPlace, run_sizeB h1, hsz, Addr.add_lit]
     ·cases hfb
    ·cases hfb
   ·cases hfb
  ·cases he
 ·cases he
theorem ok_idxA {t e : TypeId} {p x : Operand} {p' x' : Opd} {n size : Nat} (ho : o.op = .indexAddr t p x) (hp : okOpd p p' = true) (hx : okOpd x x' = true)
  (hu : P.underlying t = some (.array n e)) (hsz : sizeB P e = some size) : OpOK P o (.idxA n size p' x') := by
 intro F w0 N G lam s a w hs call v loc h he
 have hr := hs.ev hp
 have hrx := hs.ev hx
 simp only [evalK] at he
 split at he
 ·rename_i k' k hk
  rw [hk] at hrx
  have ex := hrx.int_
  split at he
  ·rename_i hlt
   split at he
   ·rename_i v' hv
    split at he
    ·rename_i hfr
     simp only [Option.some.injEq, Prod.mk.injEq] at he
     obtain ⟨rfl, rfl, rfl⟩ := he
     obtain ⟨b, q, hc, hrel⟩ := hs.addOff hr hv hfr
     refine ⟨_, w, .inl ?_, hs.out hrel⟩
     simp [execOp, ho, Instr.indexAt, run_underlying hu, hc, ex, Instr.sureAddr, asIntOf, hlt, run_sizeB hsz, Addr.add_lit]
    ·cases he
   ·cases he
  ·cases he
 ·cases he
theorem ok_idxS {t e : TypeId} {p x : Operand} {p' x' : Opd} {size : Nat} (ho : o.op = .indexAddr t p x) (hp : okOpd p p' = true) (hx : okOpd x x' = true)
  (hu : P.underlying t = some (.slice e)) (hsz : sizeB P e = some size) : OpOK P o (.idxS size p' x') := by
 intro F w0 N G lam s a w hs call v loc h he
 have hr := hs.ev hp
 have hrx := hs.ev hx
 simp only [evalK] at he
 split at he
 ·rename_i tg l k n hl hn
  rw [hn] at hrx
  have ex := hrx.int_
  split at he
  ·rename_i h0
   split at he
   ·rename_i el hel
    split at he
    ·rename_i hlen
     simp only [Option.some.injEq, Prod.mk.injEq] at he
     obtain ⟨rfl, rfl, rfl⟩ := he
     rw [hl] at hr
     obtain ⟨ad, cap, b, q, s', c, hc, h2, h3, h4, h5, h6⟩ := R.lst_inv hr
     have hne : l ≠ [] := by rintro rfl; simp at hel
     have hi : n.toNat < l.length := (List.getElem?_eq_some_iff.1 hel).1
     have hs' : s' = size := by rw [← h5 _ _ hel]; exact hlen
     subst hs'
     have had := h3 hne
     subst had
     refine ⟨.pointer (some ⟨b, q + n.toNat * s', none⟩), w, .inl ?_, hs.out (RT.to ?_)⟩
     ·have hb : 0 ≤ n ∧ n < (l.length : Int) := ⟨h0, by omega⟩
      simp [execOp, ho, Instr.indexAt, run_underlying hu, hc, ex, asIntOf, hb, run_sizeB hsz, Addr.add_lit]
     ·have := R.imm (G := G) (cells := el) (off := 0) (b := b) (o := q + n.toNat * s') (fun j => c n.toNat j) (fun j x hx => (h6 _ _ _ _ hel hx).1) (fun j x hx => (h6 _ _ _ _ hel hx).2.1) (fun j x hx => (h6 _ _ _ _ hel hx).2.2)
      simpa using this
    ·cases he
   ·cases he
  ·cases he
 ·rename_i id off len cap k n hl hn
  rw [hn] at hrx
  have ex := hrx.int_
  split at he
  ·rename_i h0
   split at he
   ·rename_i lrow hob
    split at he
    ·rename_i hst
     simp only [Option.some.injEq, Prod.mk.injEq] at he
     obtain ⟨rfl, rfl, rfl⟩ := he
     rw [hl] at hr
     obtain ⟨cap', ad, r, hc, h1, h2, h3, h4, h5⟩ := R.row_inv hr
     have hcap : cap' ≠ 0 := by omega
     have had := h5 hcap
     subst had
     obtain ⟨r', hr', ca, ty, q1, q2, q3, q4, q5⟩ := hs.inv.obj _ _ hob
     rw [h1] at hr'
     injection hr' with hr'
     subst hr'
     simp only [Option.map_eq_some_iff] at hst
     obtain ⟨el, hel, hlen⟩ := hst
     have hs' : r.s = size := by rw [← (q4 _ _ hel).1]; exact hlen
     refine ⟨.pointer (some ⟨r.b, off * r.s + n.toNat * r.s, none⟩), w, .inl ?_, hs.out (RT.to ?_)⟩
     ·simp [execOp, ho, Instr.indexAt, run_underlying hu, hc, ex, asIntOf, h0, run_sizeB hsz, Addr.add_lit, hs']
     ·rw [← Nat.add_mul]
      exact .elt h1
    ·cases he
   ·cases he
  ·cases he
 ·cases he
end
end Go.LS

/- Each operation of compact code does what the model's operation does: parts of values, slices, functions, comparisons. -/
namespace Go.LS

section
variable {P : Program} {o : Oper}
theorem ok_len {t : TypeId} {x : Operand} {x' : Opd} {ts : Array TypeId} (ho : o.op = .call { callee := .builtin .len, args := #[x], argTypes := ts }) (hts : ts = #[t]) (hx : okOpd x x' = true)
  {e : TypeId} (hu : P.underlying t = some (.slice e)) : OpOK P o (.len x') := by
 intro F w0 N G lam s a w hs call v loc h he
 have hr := hs.ev hx
 subst hts
 simp only [evalK] at he
 split at he
 ·rename_i tg l hl
  simp only [Option.some.injEq, Prod.mk.injEq] at he
  obtain ⟨rfl, rfl, rfl⟩ := he
  rw [hl] at hr
  obtain ⟨ad, cap, b, q, s', c, hc, _⟩ := R.lst_inv hr
  refine ⟨.int .i64 l.length, w, .inl ?_, hs.out (RT.to (.int _ _))⟩
  simp [execOp, ho, resolve, invoke, builtin, Builtin.len_, run_underlying hu, hc, goInt]
 ·rename_i id off n cap hl
  simp only [Option.some.injEq, Prod.mk.injEq] at he
  obtain ⟨rfl, rfl, rfl⟩ := he
  rw [hl] at hr
  obtain ⟨cap', ad, r, hc, _⟩ := R.row_inv hr
  refine ⟨.int .i64 n, w, .inl ?_, hs.out (RT.to (.int _ _))⟩
  simp [execOp, ho, resolve, invoke, builtin, Builtin.len_, run_underlying hu, hc, goInt]
 ·cases he
theorem CR.getElem {G : Ghost} {l : List V} {cs : Array Value} (h : CR G l cs) {j : Nat} {x : V} (hx : l[j]? = some x) : ∃ u, cs[j]? = some u ∧ R G x u ∧ x.leaf = true := by
 have hj : j < cs.size := by rw [← h.size]; exact (List.getElem?_eq_some_iff.1 hx).1
 exact ⟨cs[j], by simp [hj], by have := h.rel j x hx; simpa [hj] using this, h.leaf j x hx⟩
theorem CR.sub {G : Ghost} {l m : List V} {cs : Array Value} (h : CR G l cs) {off n : Nat} (hm : sub l off n = some m) : CR G m (cs.extract off (off + n)) := by
 obtain ⟨hlen, hget⟩ := sub_spec hm
 have hle : off + n ≤ cs.size := by
  rw [← h.size]
  unfold Go.LS.sub at hm
  split at hm
  ·assumption
  ·cases hm
 have key : ∀ (j : Nat) (x : V), m[j]? = some x → j < n ∧ l[off + j]? = some x := fun j x hx => by
  have hj : j < n := by rw [← hlen]; exact (List.getElem?_eq_some_iff.1 hx).1
  exact ⟨hj, by rw [← hget j hj]; exact hx⟩
 refine ⟨by simp [hlen]; omega, fun j x hx => h.leaf _ _ (key j x hx).2, fun j x hx => ?_⟩
 obtain ⟨hj, hx'⟩ := key j x hx
 have := h.rel _ _ hx'
 have h1 : off + j < cs.size := by omega
 have h2 : (cs.extract off (off + n))[j]? = some cs[off + j] := by
  rw [Array.getElem?_eq_some_iff]
  exact ⟨by simp; omega, by simp⟩
 simp only [Array.getD_eq_getD_getElem?, h2, Option.getD_some]
 simpa [h1] using this
theorem run_part {e : TypeId} {agg : Bool} {size : Nat} (ha : aggB P e = some agg) (hsz : sizeB P e = some size) {G : Ghost} {lam : Lam} {l : List V} {cs : Array Value} (h : CR G l cs) (off : Nat) {v : V}
  (hv : (if agg then (match sub l off size with | some m => some (V.agg m) | none => none) else l[off]?) = some v) (w : World) : ∃ cv, (part e cs off).run P w = .ok cv w ∧ RT G lam v cv := by
 cases agg
 ·simp only [Bool.false_eq_true, if_false] at hv
  obtain ⟨u, hu, hR, _⟩ := h.getElem hv
  exact ⟨u, by simp [part, run_isAgg ha, hu], RT.to hR⟩
 ·simp only [if_true] at hv
  split at hv
  ·rename_i m hm
   injection hv with hv
   subst hv
   have hc := h.sub hm
   refine ⟨.agg (cs.extract off (off + size)), by simp [part, run_isAgg ha, run_sizeB hsz], RT.to (.agg hc.size hc.leaf hc.rel)⟩
  ·cases hv
theorem ok_fieldV {t : TypeId} {x : Operand} {x' : Opd} {i off size : Nat} {agg : Bool} (ho : o.op = .field t x i) (hx : okOpd x x' = true) (hf : fieldB P t i = some (off, size, agg)) :
  OpOK P o (.fieldV agg off size x') := by
 intro F w0 N G lam s a w hs call v loc h he
 have hr := hs.ev hx
 simp only [evalK] at he
 split at he
 ·rename_i cs hcs
  rw [hcs] at hr
  obtain ⟨ca, hc, hcr⟩ := R.agg_inv hr
  unfold fieldB at hf
  split at hf
  ·rename_i fs hu
   split at hf
   ·rename_i f hfi
    split at hf
    ·rename_i n' b' h1 h2
     simp only [Option.some.injEq, Prod.mk.injEq] at hf
     obtain ⟨rfl, rfl, rfl⟩ := hf
     have key : ∀ u, (if b' then (match sub cs f.offset n' with | some m => some (V.agg m) | none => none) else cs[f.offset]?) = some u → (u, s.loc, s.h) = (v, loc, h) →
       ∃ cv w', Runs P a o w cv w' ∧ Out F w0 G lam v loc h cv w' := by
      intro u hu' heq
      obtain ⟨cv, h3, h4⟩ := run_part (P := P) (lam := lam) h2 h1 hcr f.offset hu' w
      simp only [Prod.mk.injEq] at heq
      obtain ⟨rfl, rfl, rfl⟩ := heq
      exact ⟨cv, w, .inl (by simp [execOp, ho, Instr.field, run_underlying hu, hfi, hc, asAgg, h3]), hs.out h4⟩
     cases b'
     ·simp only [Bool.false_eq_true, if_false] at he key
      split at he
      ·rename_i u hu'
       injection he with he
       exact key u hu' he
      ·cases he
     ·simp only [if_true] at he key
      split at he
      ·rename_i m hm
       injection he with he
       exact key (.agg m) (by rw [hm]) he
      ·cases he
    ·cases hf
   ·cases hf
  ·cases hf
 ·cases he
theorem ok_idxV {t e : TypeId} {x y : Operand} {x' y' : Opd} {n size : Nat} {agg : Bool} (ho : o.op = .index t x y) (hx : okOpd x x' = true) (hy : okOpd y y' = true)
  (hu : P.underlying t = some (.array n e)) (ha : aggB P e = some agg) (hsz : sizeB P e = some size) : OpOK P o (.idxV n size agg x' y') := by
 intro F w0 N G lam s a w hs call v loc h he
 have hr := hs.ev hx
 have hry := hs.ev hy
 simp only [evalK] at he
 split at he
 ·rename_i cs k i hcs hi
  rw [hcs] at hr
  rw [hi] at hry
  have ey := hry.int_
  obtain ⟨ca, hc, hcr⟩ := R.agg_inv hr
  split at he
  ·rename_i hb
   have key : ∀ u, (if agg then (match sub cs (i.toNat * size) size with | some m => some (V.agg m) | none => none) else cs[i.toNat * size]?) = some u → (u, s.loc, s.h) = (v, loc, h) →
     ∃ cv w', Runs P a o w cv w' ∧ Out F w0 G lam v loc h cv w' := by
    intro u hu' heq
    obtain ⟨cv, h3, h4⟩ := run_part (P := P) (lam := lam) ha hsz hcr (i.toNat * size) hu' w
    simp only [Prod.mk.injEq] at heq
    obtain ⟨rfl, rfl, rfl⟩ := heq
    exact ⟨cv, w, .inl (by simp [execOp, ho, Instr.index, run_underlying hu, hc, ey, asIntOf, hb, run_sizeB hsz, h3]), hs.out h4⟩
   cases agg
   ·simp only [Bool.false_eq_true, if_false] at he key
    split at he
    ·rename_i u hu'
     injection he with he
     exact key u hu' he
    ·cases he
   ·simp only [if_true] at he key
    split at he
    ·rename_i m hm
     injection he with he
     exact key (.agg m) (by rw [hm]) he
    ·cases he
  ·cases he
 ·cases he
theorem ok_idxStr {t : TypeId} {x y : Operand} {x' y' : Opd} (ho : o.op = .index t x y) (hx : okOpd x x' = true) (hy : okOpd y y' = true) (hu : P.underlying t = some .string) : OpOK P o (.idxStr x' y') := by
 intro F w0 N G lam s a w hs call v loc h he
 have hr := hs.ev hx
 have hry := hs.ev hy
 simp only [evalK] at he
 split at he
 ·rename_i b k i hb hi
  rw [hb] at hr
  rw [hi] at hry
  have ey := hry.int_
  have hr : R G _ _ := hr
  cases hc : a.eval x <;> rw [hc] at hr <;> cases hr
  split at he
  ·rename_i h0
   split at he
   ·rename_i c hcc
    simp only [Option.some.injEq, Prod.mk.injEq] at he
    obtain ⟨rfl, rfl, rfl⟩ := he
    exact ⟨_, w, .inl (by simp [execOp, ho, Instr.index, run_underlying hu, hc, ey, asIntOf, h0, hcc]), hs.out (RT.to (.int _ _))⟩
   ·cases he
  ·cases he
 ·cases he
theorem CR.of_map {F : Nat → Option Obj} {w0 : World} {N : Nat} {G : Ghost} {lam : Lam} {s : St} {a : Act} {w : World} (hs : SR F w0 N G lam s a w) {xs : Array Operand} {ys : List Opd}
  (h : okOpds xs.toList ys = true) (hl : (ys.all fun o => (s.ev o).leaf) = true) : CR G (ys.map s.ev) (xs.map a.eval) := by
 obtain ⟨hlen, hev⟩ := okOpds_spec h
 have key : ∀ (j : Nat) (x : V), (ys.map s.ev)[j]? = some x → ∃ y z, ys[j]? = some y ∧ xs[j]? = some z ∧ x = s.ev y ∧ okOpd z y = true := by
  intro j x hx
  rw [List.getElem?_map, Option.map_eq_some_iff] at hx
  obtain ⟨y, hy, rfl⟩ := hx
  have hj : j < xs.size := by
   have := (List.getElem?_eq_some_iff.1 hy).1
   rw [Array.length_toList] at hlen
   omega
  exact ⟨y, xs[j], hy, by simp [hj], rfl, hev j _ _ (by simp [hj]) hy⟩
 have leaf : ∀ y ∈ ys, (s.ev y).leaf = true := List.all_eq_true.1 hl
 refine ⟨by simpa using hlen.symm, fun j x hx => ?_, fun j x hx => ?_⟩
 ·obtain ⟨y, z, h1, h2, rfl, h4⟩ := key j x hx
  exact leaf y (List.mem_of_getElem? h1)
 ·obtain ⟨y, z, h1, h2, rfl, h4⟩ := key j x hx
  have hR := (hs.ev h4).of (by have := leaf y (List.mem_of_getElem? h1); revert this; cases s.ev y <;> simp [V.leaf, V.free])
  have hj : j < xs.size := (Array.getElem?_eq_some_iff.1 h2).1
  have hz : xs[j] = z := by simpa [hj] using h2
  simpa [hj, hz] using hR
theorem ok_mkfn {f : FuncId} {first caps : Array Operand} {first' caps' : List Opd} (ho : o.op = .makeFunc (.func f) first caps) (h1 : okOpds first.toList first' = true) (h2 : okOpds caps.toList caps' = true) :
  OpOK P o (.mkfn f first' caps') := by
 intro F w0 N G lam s a w hs call v loc h he
 simp only [evalK] at he
 split at he
 ·rename_i hl
  simp only [Bool.and_eq_true] at hl
  simp only [Option.some.injEq, Prod.mk.injEq] at he
  obtain ⟨rfl, rfl, rfl⟩ := he
  have c1 := CR.of_map hs h1 hl.1
  have c2 := CR.of_map hs h2 hl.2
  exact ⟨_, w, .inl (by simp [execOp, ho, Instr.makeFunc]), hs.out (RT.to (.fn c1.size c2.size c1.leaf c2.leaf c1.rel c2.rel))⟩
 ·cases he

def okOO : Option Operand → Option Opd → Bool
 | none, none => true
 | some x, some x' => okOpd x x'
 | _, _ => false
theorem asNat_run {F : Nat → Option Obj} {w0 : World} {N : Nat} {G : Ghost} {lam : Lam} {s : St} {a : Act} {w : World} (hs : SR F w0 N G lam s a w) {x : Option Operand} {x' : Option Opd} {n : Option Nat}
  (hx : okOO x x' = true) (h : asNat (x'.map s.ev) = some n) :
  (n = none ∧ x.map a.eval = none) ∨ ∃ k m, n = some m ∧ x.map a.eval = some (.int k (m : Int)) := by
 cases x with
 | none =>
  cases x' with
  | none => simp [asNat] at h; exact .inl ⟨h.symm, rfl⟩
  | some x' => cases hx
 | some x =>
  cases x' with
  | none => cases hx
  | some x' =>
   have hr := hs.ev (show okOpd x x' = true from hx)
   simp only [Option.map_some] at h
   cases hv : s.ev x' <;> rw [hv] at h <;> simp only [asNat] at h <;> try cases h
   rename_i k i
   split at h
   ·rename_i h0
    injection h with h
    rw [hv] at hr
    have e := hr.int_
    exact .inr ⟨k, i.toNat, h.symm, by simp [e]; omega⟩
   ·cases h

theorem okSize_spec {G : Ghost} {size s' : Nat} {l : List (List V)} (h : okSize size l = true) (hs : ∀ (i : Nat) (e : List V), l[i]? = some e → e.length = s') : l = [] ∨ s' = size := by
 cases l with
 | nil => exact .inl rfl
 | cons e l => exact .inr (by rw [← hs 0 e rfl]; simpa [okSize] using h)
theorem run_sliceBound_none {k : IntKind} {n y : Nat} (c : BoundsCode) (h : n ≤ y) (w : World) : (Instr.sliceBound (.int k (n : Int)) y c).run P w = .ok n w := by
 have : (0 : Int) ≤ n ∧ (n : Int) ≤ y := by omega
 simp [Instr.sliceBound, asIntOf, this]
theorem run_sliceBounds {len cap : Nat} {lo hi mx : Option Value} {lo' hi' mx' : Option Nat} (h1 : (lo' = none ∧ lo = none) ∨ ∃ k m, lo' = some m ∧ lo = some (.int k (m : Int)))
  (h2 : (hi' = none ∧ hi = none) ∨ ∃ k m, hi' = some m ∧ hi = some (.int k (m : Int))) (h3 : (mx' = none ∧ mx = none) ∨ ∃ k m, mx' = some m ∧ mx = some (.int k (m : Int)))
  (hm : mx.isSome = true → hi.isSome = true) (c1 : mx'.getD cap ≤ cap) (c2 : hi'.getD len ≤ mx'.getD cap) (c3 : lo'.getD 0 ≤ hi'.getD len) (w : World) :
  (Instr.sliceBounds true len cap lo hi mx).run P w = .ok (lo'.getD 0, hi'.getD len, mx'.getD cap) w := by
 rcases h1 with ⟨rfl, rfl⟩ | ⟨k1, m1, rfl, rfl⟩ <;> rcases h2 with ⟨rfl, rfl⟩ | ⟨k2, m2, rfl, rfl⟩ <;> rcases h3 with ⟨rfl, rfl⟩ | ⟨k3, m3, rfl, rfl⟩
 all_goals simp only [Option.getD_some, Option.getD_none, Option.isSome_some, Option.isSome_none, forall_const, Bool.false_eq_true] at *
 all_goals simp [Instr.sliceBounds, run_sliceBound_none, *]
theorem ok_slice {t e : TypeId} {x : Operand} {x' : Opd} {lo hi mx : Option Operand} {lo' hi' mx' : Option Opd} {size : Nat} (ho : o.op = .slice t x lo hi mx) (hx : okOpd x x' = true)
  (h1 : okOO lo lo' = true) (h2 : okOO hi hi' = true)
  (h3 : okOO mx mx' = true) (hm : mx.isSome = true → hi.isSome = true)
  (hu : P.underlying t = some (.slice e)) (hsz : sizeB P e = some size) : OpOK P o (.slice size x' lo' hi' mx') := by
 intro F w0 N G lam s a w hs call v loc h he
 have hr := hs.ev hx
 simp only [evalK] at he
 split at he
 ·rename_i v' hv
  simp only [Option.some.injEq, Prod.mk.injEq] at he
  obtain ⟨rfl, rfl, rfl⟩ := he
  unfold sliceV at hv
  split at hv
  ·rename_i lo2 hi2 mx2 e1 e2 e3
   have a1 := asNat_run hs h1 e1
   have a2 := asNat_run hs h2 e2
   have a3 := asNat_run hs h3 e3
   split at hv
   ·rename_i tg l hl
    rw [hl] at hr
    obtain ⟨ad, cap, b, q, s', c, hc, g2, g3, g4, g5, g6⟩ := R.lst_inv hr
    split at hv
    ·rename_i hb
     obtain ⟨b1, b2, b3⟩ := hb
     -- the new list, its cells
     have hnew : ∀ tg' ad' m', hi2.getD l.length ≤ m' → m' ≤ cap → (lo2.getD 0 < hi2.getD l.length → ad' = some ⟨b, q + lo2.getD 0 * s', none⟩) →
       TagOK G tg' ad' (hi2.getD l.length - lo2.getD 0) (m' - lo2.getD 0) b (q + lo2.getD 0 * s') s' →
       R G (.lst tg' ((l.take (hi2.getD l.length)).drop (lo2.getD 0))) (.slice ad' (hi2.getD l.length - lo2.getD 0) (m' - lo2.getD 0)) := by
      intro tg' ad' m' hm1 hm2 had htag
      have hget : ∀ (i : Nat) (e : List V), ((l.take (hi2.getD l.length)).drop (lo2.getD 0))[i]? = some e → l[lo2.getD 0 + i]? = some e ∧ lo2.getD 0 + i < hi2.getD l.length := by
       intro i e hi
       rw [List.getElem?_drop, List.getElem?_take] at hi
       split at hi
       ·exact ⟨hi, by assumption⟩
       ·cases hi
      have hlen : ((l.take (hi2.getD l.length)).drop (lo2.getD 0)).length = hi2.getD l.length - lo2.getD 0 := by simp; omega
      refine R.lst_mk (b := b) (o := q + lo2.getD 0 * s') (s := s') (fun i j => c (lo2.getD 0 + i) j) hlen.symm (by omega) (fun hne => had ?_) htag (fun i e hi => g5 _ _ (hget i e hi).1) (fun i e j x hi hj => ?_)
      ·have : ((l.take (hi2.getD l.length)).drop (lo2.getD 0)).length ≠ 0 := fun h0 => hne (List.eq_nil_of_length_eq_zero h0)
       omega
      ·have := g6 _ _ _ _ (hget i e hi).1 hj
       rw [show q + lo2.getD 0 * s' + i * s' + j = q + (lo2.getD 0 + i) * s' + j from by rw [Nat.add_mul]; omega]
       exact this
     have hadr : ∀ m', hi2.getD l.length ≤ m' → lo2.getD 0 < hi2.getD l.length → (if m' = lo2.getD 0 then ad else ad.map (·.add (lo2.getD 0 * size))) = some ⟨b, q + lo2.getD 0 * s', none⟩ := by
      intro m' hm1 hlt
      have hne : l ≠ [] := by
       intro h0
       have : l.length = 0 := by rw [h0]; rfl
       omega
      have hs2 : s' = size := (okSize_spec (G := G) b3 g5).resolve_left hne
      rw [if_neg (by omega), g3 hne, hs2]
      simp [Addr.add_lit]
     split at hv
     ·rename_i hmx
      injection hv with hv
      subst hv
      have hbd := run_sliceBounds (P := P) (len := l.length) (cap := cap) a1 a2 a3 (by rw [Option.isSome_map, Option.isSome_map]; exact hm) (by simp) (by simp; omega) b2 w
      refine ⟨.slice (if cap = lo2.getD 0 then ad else ad.map (·.add (lo2.getD 0 * size))) (hi2.getD l.length - lo2.getD 0) (cap - lo2.getD 0), w, .inl ?_, hs.out (RT.to (hnew _ _ cap (by omega) (Nat.le_refl _) (hadr cap (by omega)) ?_))⟩
      ·simp only [Option.getD_none] at hbd
       simp [execOp, ho, Instr.sliceAt, Instr.slice, run_underlying hu, hc, hbd, run_sizeB hsz]
      ·split
       ·rename_i htg
        subst htg
        obtain ⟨rfl, rfl⟩ := g4
        have : l.length = 0 := by omega
        exact ⟨by simp, by omega⟩
       ·trivial
     ·rename_i _ m
      split at hv
      ·rename_i hmh
       injection hv with hv
       subst hv
       have hbd := run_sliceBounds (P := P) (len := l.length) (cap := cap) a1 a2 a3 (by rw [Option.isSome_map, Option.isSome_map]; exact hm) (by simp; omega) (by simp; omega) b2 w
       refine ⟨.slice (if m = lo2.getD 0 then ad else ad.map (·.add (lo2.getD 0 * size))) (hi2.getD l.length - lo2.getD 0) (m - lo2.getD 0), w, .inl ?_, hs.out (RT.to (hnew _ _ m (by omega) (by omega) (hadr m (by omega)) ?_))⟩
       ·simp only [Option.getD_some] at hbd
        simp [execOp, ho, Instr.sliceAt, Instr.slice, run_underlying hu, hc, hbd, run_sizeB hsz]
       ·split
        ·rename_i htg
         subst htg
         obtain ⟨rfl, rfl⟩ := g4
         exact ⟨by simp, by omega⟩
        ·show m - _ = _ - _
         omega
      ·cases hv
    ·cases hv
   ·rename_i id off len cap hl
    rw [hl] at hr
    obtain ⟨cap', ad, r, hc, q1, q2, q3, q4, q5⟩ := R.row_inv hr
    split at hv
    ·rename_i lrow hob
     split at hv
     ·rename_i hb
      obtain ⟨b1, b2, b3⟩ := hb
      split at hv
      ·rename_i hmx
       injection hv with hv
       subst hv
       obtain ⟨r', hr', ca, ty, z1, z2, z3, z4, z5⟩ := hs.inv.obj _ _ hob
       rw [q1] at hr'
       injection hr' with hr'
       subst hr'
       have hsz' : r.s = size := by
        cases lrow with
        | nil => cases b3
        | cons e0 l0 => rw [← (z4 0 e0 rfl).1]; simpa [hasSize] using b3
       have hbd := run_sliceBounds (P := P) (len := len) (cap := cap') a1 a2 a3 (by rw [Option.isSome_map, Option.isSome_map]; exact hm) (by simp) (by simp; omega) b2 w
       refine ⟨.slice (some (if cap' = lo2.getD 0 then ad else ad.add (lo2.getD 0 * size))) (hi2.getD len - lo2.getD 0) (cap' - lo2.getD 0), w, .inl ?_,
        hs.out (RT.to (.row q1 (by omega) (by omega) (by omega) (fun hne => ?_)))⟩
       ·simp only [Option.getD_none] at hbd
        simp [execOp, ho, Instr.sliceAt, Instr.slice, run_underlying hu, hc, hbd, run_sizeB hsz]
        split <;> rfl
       ·rw [if_neg (by omega), q5 (by omega), Addr.add_lit, hsz', Nat.add_mul]
      ·cases hv
     ·cases hv
    ·cases hv
   ·cases hv
  ·cases hv
 ·cases he
theorem minmax_run {isMax : Bool} : ∀ {x v : V} {rest : List V} {cx : Value} {crest : List Value} {G : Ghost} {lam : Lam}, minmaxV isMax x rest = some v → RT G lam x cx →
  crest.length = rest.length → (∀ (j : Nat) (y : V) (c : Value), rest[j]? = some y → crest[j]? = some c → RT G lam y c) → ∀ w : World,
  ∃ cv, (crest.foldlM (if isMax then Builtin.max2 else Builtin.min2) cx).run P w = .ok cv w ∧ RT G lam v cv := by
 intro x v rest
 induction rest generalizing x with
 | nil =>
  intro cx crest G lam h hx hl hr w
  have : crest = [] := List.eq_nil_of_length_eq_zero (by simpa using hl)
  subst this
  cases x <;> (simp only [minmaxV, Option.some.injEq] at h; subst h; exact ⟨cx, by simp, hx⟩)
 | cons y rest ih =>
  intro cx crest G lam h hx hl hr w
  obtain ⟨k, n, rfl⟩ : ∃ k n, x = .int k n := by cases x <;> first | exact ⟨_, _, rfl⟩ | (simp [minmaxV] at h)
  obtain ⟨k', m, rfl⟩ : ∃ k n, y = .int k n := by cases y <;> first | exact ⟨_, _, rfl⟩ | (simp [minmaxV] at h)
  simp only [minmaxV] at h
  split at h
  ·rename_i hk
   subst hk
   cases crest with
   | nil => simp at hl
   | cons c crest =>
    have e1 := hx.int_
    have e2 := (hr 0 _ c rfl rfl).int_
    subst e1 e2
    obtain ⟨cv, h1, h2⟩ := ih (cx := .int k (if isMax then max n m else min n m)) (crest := crest) (lam := lam) h (RT.to (.int _ _)) (by simpa using hl) (fun j y c hy hc => hr (j + 1) y c (by simpa using hy) (by simpa using hc)) w
    refine ⟨cv, ?_, h2⟩
    simp only [List.foldlM_cons, Sem.run_bind]
    cases isMax
    ·have : (Builtin.min2 (.int k n) (.int k m)).run P w = .ok (.int k (min n m)) w := by
      simp only [Builtin.min2, Sem.run_pure]
      congr 2
      split <;> omega
     simp only [Bool.false_eq_true, if_false] at h1 ⊢
     rw [this]
     exact h1
    ·have : (Builtin.max2 (.int k n) (.int k m)).run P w = .ok (.int k (max n m)) w := by
      simp only [Builtin.max2, Sem.run_pure]
      congr 2
      split <;> omega
     simp only [if_true] at h1 ⊢
     rw [this]
     exact h1
  ·cases h
theorem ok_minmax {isMax : Bool} {x : Operand} {xs : List Operand} {x' : Opd} {xs' : List Opd} {ts : Array TypeId}
  (ho : o.op = .call { callee := .builtin (if isMax then .max else .min), args := (x :: xs).toArray, argTypes := ts }) (hx : okOpd x x' = true) (hxs : okOpds xs xs' = true) : OpOK P o (.minmax isMax x' xs') := by
 intro F w0 N G lam s a w hs call v loc h he
 simp only [evalK] at he
 split at he
 ·rename_i v' hv
  simp only [Option.some.injEq, Prod.mk.injEq] at he
  obtain ⟨rfl, rfl, rfl⟩ := he
  obtain ⟨hlen, hev⟩ := okOpds_spec hxs
  obtain ⟨cv, h1, h2⟩ := minmax_run (P := P) (crest := xs.map a.eval) hv (hs.ev hx) (by simp [hlen]) (fun j y c hy hc => by
   rw [List.getElem?_map, Option.map_eq_some_iff] at hy hc
   obtain ⟨y1, hy1, rfl⟩ := hy
   obtain ⟨c1, hc1, rfl⟩ := hc
   exact hs.ev (hev j _ _ hc1 hy1)) w
  refine ⟨cv, w, .inl ?_, hs.out h2⟩
  cases isMax
  ·simp only [Bool.false_eq_true, if_false] at ho h1
   simp [execOp, ho, resolve, invoke, builtin, Builtin.min_, h1]
  ·simp only [if_true] at ho h1
   simp [execOp, ho, resolve, invoke, builtin, Builtin.max_, h1]
 ·cases he

end
end Go.LS

/- How the tie between the abstract state and memory is kept: new objects, new locals, what is written, what is given up. -/
namespace Go.LS

section
variable {F : Nat → Option Obj} {G : Ghost} {lam : Lam} {h : Heap} {loc : Loc} {w w1 : World}
structure Tie (F : Nat → Option Obj) (G : Ghost) (lam : Lam) (h : Heap) (loc : Loc) (w : World) : Prop where
 inv : Inv G h w
 frame : FrameOK F G h w
 locs : LocR F G lam h loc w
theorem SR.tie {w0 : World} {N : Nat} {s : St} {a : Act} (hs : SR F w0 N G lam s a w) : Tie F G lam s.h s.loc w := ⟨hs.inv, hs.frame, hs.locs⟩
theorem Tie.out {w0 : World} {G' : Ghost} {lam' : Lam} {v : V} {cv : Value} (ht : Tie F G' lam' h loc w) (hl : G.le G') (hll : Lam.le lam lam') (hsame : Same w0 w) (hv : RT G' lam' v cv) :
  Out F w0 G lam v loc h cv w := ⟨G', lam', hl, hll, ht.inv, ht.frame, ht.locs, hsame, hv⟩
theorem upd_eq {α : Type} (f : Nat → α) (i : Nat) (v : α) : upd f i v i = v := by simp [upd]
theorem upd_ne {α : Type} (f : Nat → α) {i j : Nat} (v : α) (hne : j ≠ i) : upd f i v j = f j := by simp [upd, hne]
theorem FrameOK.lt (hf : FrameOK F G h w) {b : Nat} {o : Obj} (hb : F b = some o) : b < w.heap.size := (Array.getElem?_eq_some_iff.1 (hf b o hb).1).1
theorem Tie.kill (ht : Tie F G lam h loc w) (id : Nat) : Tie F G lam (h.kill id) loc w := by
 have key : ∀ id' ob, (h.kill id).objs id' = some ob → h.objs id' = some ob := fun id' ob ho => by
  simp only [Heap.kill, upd] at ho
  split at ho
  ·cases ho
  ·exact ho
 exact ⟨⟨ht.inv.imm, fun id' ob ho => ht.inv.obj id' ob (key id' ob ho), ht.inv.fresh, fun i j oi oj r r' h1 h2 => ht.inv.sep i j oi oj r r' (key _ _ h1) (key _ _ h2)⟩,
  fun b o hb => ⟨(ht.frame b o hb).1, fun id' ob r ho => (ht.frame b o hb).2.1 id' ob r (key _ _ ho), (ht.frame b o hb).2.2⟩,
  ⟨ht.locs.val, ht.locs.conv, ht.locs.imm, fun sl ver B id' ob r h1 h2 => ht.locs.apart sl ver B id' ob r h1 (key _ _ h2), ht.locs.inj, ht.locs.frame⟩⟩
def Ghost.with (G : Ghost) (B : Nat) (m : Nat → Option Value) (id : Nat) (r : Rec) : Ghost := ⟨fun b o => if b = B then m o else G.M b o, upd G.ρ id (some r)⟩
theorem Ghost.le_with {B : Nat} {m : Nat → Option Value} {id : Nat} {r : Rec} (hB : ∀ o c, G.M B o = some c → m o = some c) (hid : G.ρ id = none) : G.le (G.with B m id r) :=
 ⟨fun b o c hc => by
  simp only [Ghost.with]
  split
  ·rename_i hb; subst hb; exact hB _ _ hc
  ·exact hc, fun i r' hr => by
  simp only [Ghost.with]
  rw [upd_ne _ _ (fun he => by rw [he, hid] at hr; cases hr)]
  exact hr⟩
theorem Tie.put (ht : Tie F G lam h loc w) (hext : Ext w w1) {B : Nat} {m : Nat → Option Value} {r : Rec} {ob : AObj} (hrb : r.b = B) (hB : ∀ o c, G.M B o = some c → m o = some c)
  (hobj : ∀ id ob r, h.objs id = some ob → G.ρ id = some r → r.b ≠ B) (hlam : ∀ sl ver B', lam sl = some (ver, B') → B' ≠ B) (hF : F B = none)
  (hm : ∀ o c, m o = some c → w1.cell? ⟨B, o, none⟩ = some c) (hob : ObjR (G.with B m h.next r) ob r w1) :
  G.le (G.with B m h.next r) ∧ Tie F (G.with B m h.next r) lam (h.new ob) loc w1 := by
 have hid : G.ρ h.next = none := ht.inv.fresh _ (Nat.le_refl _)
 have hl : G.le (G.with B m h.next r) := Ghost.le_with hB hid
 have hnext : h.objs h.next = none := by
  cases ho : h.objs h.next with
  | none => rfl
  | some ob' => obtain ⟨r', h1, _⟩ := ht.inv.obj _ _ ho; rw [hid] at h1; cases h1
 have key : ∀ id' ob', (h.new ob).objs id' = some ob' → (id' = h.next ∧ ob' = ob) ∨ (id' ≠ h.next ∧ h.objs id' = some ob') := fun id' ob' ho => by
  simp only [Heap.new, upd] at ho
  split at ho
  ·rename_i he; injection ho with ho; exact .inl ⟨he, ho.symm⟩
  ·rename_i he; exact .inr ⟨he, ho⟩
 have hρ : ∀ id', id' ≠ h.next → (G.with B m h.next r).ρ id' = G.ρ id' := fun id' hne => by simp only [Ghost.with]; exact upd_ne _ _ hne
 have hρn : (G.with B m h.next r).ρ h.next = some r := by simp only [Ghost.with]; exact upd_eq _ _ _
 have hMn : ∀ b o, b ≠ B → (G.with B m h.next r).M b o = G.M b o := fun b o hne => by simp only [Ghost.with]; rw [if_neg hne]
 refine ⟨hl, ⟨⟨fun b o c hc => ?_, fun id' ob' ho => ?_, fun id' hid' => ?_, fun i j oi oj ri rj hi hj h3 h4 h5 => ?_⟩, fun b o hb => ⟨hext.heap _ _ (ht.frame b o hb).1, fun id' ob' r' ho hr => ?_, fun q => by rw [hMn _ _ (fun e => by rw [e, hF] at hb; cases hb)]; exact (ht.frame b o hb).2.2 q⟩,
  ⟨fun sl ver cells hc => ?_, ht.locs.conv, fun sl ver B' hb o => ?_, fun sl ver B' id' ob' r' h1 h2 h3 => ?_, ht.locs.inj, ht.locs.frame⟩⟩⟩
 ·by_cases hb : b = B
  ·subst hb
   simp only [Ghost.with, if_true] at hc
   exact hm _ _ hc
  ·rw [hMn _ _ hb] at hc
   exact hext.cell (ht.inv.imm _ _ _ hc)
 ·rcases key _ _ ho with ⟨rfl, rfl⟩ | ⟨hne, ho'⟩
  ·exact ⟨r, hρn, hob⟩
  ·obtain ⟨r', h1, h2⟩ := ht.inv.obj _ _ ho'
   exact ⟨r', hl.r _ _ h1, (h2.ghost hl (fun o h0 => by rw [hMn _ _ (hobj _ _ _ ho' h1)]; exact h0)).ext hext⟩
 ·have : id' ≠ h.next := by simp only [Heap.new] at hid'; omega
  rw [hρ _ this]
  exact ht.inv.fresh _ (by simp only [Heap.new] at hid'; omega)
 ·rcases key _ _ hi with ⟨rfl, rfl⟩ | ⟨hne, hi'⟩ <;> rcases key _ _ hj with ⟨rfl, rfl⟩ | ⟨hne2, hj'⟩
  ·rfl
  ·rw [hρn] at h3; injection h3 with h3; subst h3
   rw [hρ _ hne2] at h4
   exact absurd (h5.symm.trans hrb) (hobj _ _ _ hj' h4)
  ·rw [hρn] at h4; injection h4 with h4; subst h4
   rw [hρ _ hne] at h3
   exact absurd (h5.trans hrb) (hobj _ _ _ hi' h3)
  ·rw [hρ _ hne] at h3
   rw [hρ _ hne2] at h4
   exact ht.inv.sep _ _ _ _ _ _ hi' hj' h3 h4 h5
 ·rcases key _ _ ho with ⟨rfl, rfl⟩ | ⟨hne, ho'⟩
  ·rw [hρn] at hr; injection hr with hr; subst hr
   rw [hrb]
   intro he
   subst he
   rw [hF] at hb
   cases hb
  ·rw [hρ _ hne] at hr
   exact (ht.frame b o hb).2.1 _ _ _ ho' hr
 ·obtain ⟨B', cs, ty, h1, h2, h3⟩ := ht.locs.val _ _ _ hc
  exact ⟨B', cs, ty, h1, hext.heap _ _ h2, h3.mono hl⟩
 ·rw [hMn _ _ (hlam _ _ _ hb)]
  exact ht.locs.imm _ _ _ hb o
 ·rcases key _ _ h2 with ⟨rfl, rfl⟩ | ⟨hne, ho'⟩
  ·rw [hρn] at h3; injection h3 with h3; subst h3
   rw [hrb]
   exact (hlam _ _ _ h1).symm
  ·rw [hρ _ hne] at h3
   exact ht.locs.apart _ _ _ _ _ _ h1 ho' h3
theorem Tie.noM (ht : Tie F G lam h loc w) (o : Nat) : G.M w.heap.size o = none := by
 cases hm : G.M w.heap.size o with
 | none => rfl
 | some c => have := ht.inv.there hm; omega
theorem Tie.obj_lt (ht : Tie F G lam h loc w) {id : Nat} {ob : AObj} {r : Rec} (ho : h.objs id = some ob) (hr : G.ρ id = some r) : r.b < w.heap.size := by
 obtain ⟨r', h1, h2⟩ := ht.inv.obj _ _ ho
 rw [hr] at h1
 injection h1 with h1
 subst h1
 exact h2.there
theorem Tie.frame_new (ht : Tie F G lam h loc w) : F w.heap.size = none := by
 cases hf : F w.heap.size with
 | none => rfl
 | some o => have := ht.frame.lt hf; omega
theorem Tie.newObj (ht : Tie F G lam h loc w) (hext : Ext w w1) {m : Nat → Option Value} {r : Rec} {ob : AObj} (hrb : r.b = w.heap.size)
  (hm : ∀ o c, m o = some c → w1.cell? ⟨w.heap.size, o, none⟩ = some c) (hob : ObjR (G.with w.heap.size m h.next r) ob r w1) :
  G.le (G.with w.heap.size m h.next r) ∧ Tie F (G.with w.heap.size m h.next r) lam (h.new ob) loc w1 :=
 ht.put hext hrb (fun o c hc => by rw [ht.noM] at hc; cases hc) (fun id ob r ho hr => Nat.ne_of_lt (ht.obj_lt ho hr)) (fun sl ver B hb => Nat.ne_of_lt (ht.locs.there hb)) ht.frame_new hm hob
def Ghost.immut (G : Ghost) (B : Nat) (m : Nat → Option Value) : Ghost := ⟨fun b o => if b = B then m o else G.M b o, G.ρ⟩
theorem Tie.setImm (ht : Tie F G lam h loc w) (hext : Ext w w1) {B : Nat} {m : Nat → Option Value} (hB : ∀ o c, G.M B o = some c → m o = some c)
  (hobj : ∀ id ob r, h.objs id = some ob → G.ρ id = some r → r.b ≠ B) (hlam : ∀ sl ver B', lam sl = some (ver, B') → B' ≠ B) (hF : F B = none)
  (hm : ∀ o c, m o = some c → w1.cell? ⟨B, o, none⟩ = some c) : G.le (G.immut B m) ∧ Tie F (G.immut B m) lam h loc w1 := by
 have hl : G.le (G.immut B m) := ⟨fun b o c hc => by
  simp only [Ghost.immut]
  split
  ·rename_i hb; subst hb; exact hB _ _ hc
  ·exact hc, fun _ _ hr => hr⟩
 have hMn : ∀ b o, b ≠ B → (G.immut B m).M b o = G.M b o := fun b o hne => by simp only [Ghost.immut]; rw [if_neg hne]
 refine ⟨hl, ?_⟩
 have hi := ht.inv.ext hext
 have himm : ∀ b o c, (G.immut B m).M b o = some c → w1.cell? ⟨b, o, none⟩ = some c := fun b o c hc => by
  by_cases hb : b = B
  ·subst hb
   simp only [Ghost.immut, if_true] at hc
   exact hm _ _ hc
  ·rw [hMn _ _ hb] at hc
   exact hi.imm _ _ _ hc
 exact ⟨hi.ghost hl himm ht.inv.fresh (fun id ob r ho hr o h0 => by rw [hMn _ _ (hobj id ob r ho hr)]; exact h0), (ht.frame.ext hext).ghost hi hl (fun b o hb q => by rw [hMn _ _ (fun e => by rw [e, hF] at hb; cases hb)]; exact (ht.frame b o hb).2.2 q),
  (ht.locs.ext hext).ghost hi hl (fun sl ver B' hb o => by rw [hMn _ _ (hlam _ _ _ hb)]; exact ht.locs.imm _ _ _ hb o)⟩
theorem Tie.newImm (ht : Tie F G lam h loc w) (hext : Ext w w1) {m : Nat → Option Value} (hm : ∀ o c, m o = some c → w1.cell? ⟨w.heap.size, o, none⟩ = some c) :
  G.le (G.immut w.heap.size m) ∧ Tie F (G.immut w.heap.size m) lam h loc w1 :=
 ht.setImm hext (fun o c hc => by rw [ht.noM] at hc; cases hc) (fun id ob r ho hr => Nat.ne_of_lt (ht.obj_lt ho hr)) (fun sl ver B hb => Nat.ne_of_lt (ht.locs.there hb)) ht.frame_new hm
theorem Tie.newLoc (ht : Tie F G lam h loc w) (d : Nat) {cells : List V} {cs : Array Value} (ty : TypeId) (hc : CR G cells cs) :
  Lam.le lam (upd lam d (some (nextVer loc d, w.heap.size))) ∧ Tie F G (upd lam d (some (nextVer loc d, w.heap.size))) h (upd loc d (some (nextVer loc d, cells))) (w.alloc (.cells cs ty)) := by
 have hext := Ext.alloc w (.cells cs ty)
 have hL := ht.locs.ext hext
 refine ⟨fun sl v B hb => ?_, ht.inv.ext hext, ht.frame.ext hext, ⟨fun sl ver cells' hc' => ?_, fun sl ver B hb => ?_, fun sl ver B hb o => ?_, fun sl ver B id ob r hb ho hr => ?_, fun sl sl' ver ver' B hb hb' => ?_, fun sl ver B hb => ?_⟩⟩
 ·by_cases hsl : sl = d
  ·subst hsl
   refine ⟨_, _, upd_eq _ _ _, .inl ?_⟩
   obtain ⟨cl, hcl⟩ := ht.locs.conv _ _ _ hb
   simp only [nextVer, hcl]
   omega
  ·exact ⟨v, B, by rw [upd_ne _ _ hsl]; exact hb, .inr ⟨rfl, rfl⟩⟩
 ·by_cases hsl : sl = d
  ·subst hsl
   rw [upd_eq] at hc'
   injection hc' with hc'
   injection hc' with h1 h2
   subst h1 h2
   exact ⟨_, cs, ty, upd_eq _ _ _, heap_alloc_new w _, hc⟩
  ·rw [upd_ne _ _ hsl] at hc' ⊢
   exact hL.val _ _ _ hc'
 ·by_cases hsl : sl = d
  ·subst hsl
   rw [upd_eq] at hb ⊢
   injection hb with hb
   injection hb with h1 h2
   subst h1
   exact ⟨_, rfl⟩
  ·rw [upd_ne _ _ hsl] at hb ⊢
   exact hL.conv _ _ _ hb
 ·by_cases hsl : sl = d
  ·subst hsl
   rw [upd_eq] at hb
   injection hb with hb
   injection hb with h1 h2
   subst h2
   exact ht.noM o
  ·rw [upd_ne _ _ hsl] at hb
   exact hL.imm _ _ _ hb o
 ·by_cases hsl : sl = d
  ·subst hsl
   rw [upd_eq] at hb
   injection hb with hb
   injection hb with h1 h2
   subst h2
   exact Nat.ne_of_lt (ht.obj_lt ho hr)
  ·rw [upd_ne _ _ hsl] at hb
   exact hL.apart _ _ _ _ _ _ hb ho hr
 ·by_cases hsl : sl = d <;> by_cases hsl' : sl' = d
  ·rw [hsl, hsl']
  ·subst hsl
   rw [upd_eq] at hb
   rw [upd_ne _ _ hsl'] at hb'
   injection hb with hb
   injection hb with h1 h2
   subst h2
   exact absurd (ht.locs.there hb') (by omega)
  ·subst hsl'
   rw [upd_eq] at hb'
   rw [upd_ne _ _ hsl] at hb
   injection hb' with hb'
   injection hb' with h1 h2
   subst h2
   exact absurd (ht.locs.there hb) (by omega)
  ·rw [upd_ne _ _ hsl] at hb
   rw [upd_ne _ _ hsl'] at hb'
   exact hL.inj _ _ _ _ _ hb hb'
 ·by_cases hsl : sl = d
  ·subst hsl
   rw [upd_eq] at hb
   injection hb with hb
   injection hb with h1 h2
   subst h2
   exact ht.frame_new
  ·rw [upd_ne _ _ hsl] at hb
   exact hL.frame _ _ _ hb
structure But (B : Nat) (w w1 : World) : Prop where
 heap : ∀ b : Nat, b ≠ B → w1.heap[b]? = w.heap[b]?
 same : Same w w1
theorem But.cell {B : Nat} (hb : But B w w1) {b o : Nat} (hne : b ≠ B) : w1.cell? ⟨b, o, none⟩ = w.cell? ⟨b, o, none⟩ := by
 unfold World.cell?
 rw [show (⟨b, o, none⟩ : Addr).block = b from rfl, hb.heap b hne]
theorem ObjR.but {B : Nat} {ob : AObj} {r : Rec} (hb : But B w w1) (hne : r.b ≠ B) (ho : ObjR G ob r w) : ObjR G ob r w1 := by
 cases ob with
 | var cells => obtain ⟨cs, ty, h1, h2⟩ := ho; exact ⟨cs, ty, by rw [hb.heap _ hne]; exact h1, h2⟩
 | row l => obtain ⟨cs, ty, h1, h2⟩ := ho; exact ⟨cs, ty, by rw [hb.heap _ hne]; exact h1, h2⟩
 | map k f => obtain ⟨es, clock, h1, h2⟩ := ho; exact ⟨es, clock, by rw [hb.heap _ hne]; exact h1, h2⟩
 | tok n sz => obtain ⟨cs, ty, h1, h2⟩ := ho; exact ⟨cs, ty, by rw [hb.heap _ hne]; exact h1, h2⟩
theorem Tie.modObj (ht : Tie F G lam h loc w) {id : Nat} {ob ob' : AObj} {r : Rec} (ho : h.objs id = some ob) (hr : G.ρ id = some r) (hb : But r.b w w1) (hM : ∀ o, G.M r.b o = none)
  (hob : ObjR G ob' r w1) : Tie F G lam (h.set id ob') loc w1 := by
 have hne : ∀ id' ob' r', h.objs id' = some ob' → G.ρ id' = some r' → id' ≠ id → r'.b ≠ r.b := fun id' ob2 r' h1 h2 h3 h4 => h3 (ht.inv.sep _ _ _ _ _ _ h1 ho h2 hr h4)
 have key : ∀ id' ob2, (h.set id ob').objs id' = some ob2 → (id' = id ∧ ob2 = ob') ∨ (id' ≠ id ∧ h.objs id' = some ob2) := fun id' ob2 ho2 => by
  simp only [Heap.set, upd] at ho2
  split at ho2
  ·rename_i he; injection ho2 with ho2; exact .inl ⟨he, ho2.symm⟩
  ·rename_i he; exact .inr ⟨he, ho2⟩
 refine ⟨⟨fun b o c hc => ?_, fun id' ob2 ho2 => ?_, ht.inv.fresh, fun i j oi oj ri rj hi hj h3 h4 h5 => ?_⟩, fun b o hbo => ?_, ⟨fun sl ver cells hc => ?_, ht.locs.conv, ht.locs.imm, fun sl ver B id' ob2 r' h1 h2 h3 => ?_, ht.locs.inj, ht.locs.frame⟩⟩
 ·have hbne : b ≠ r.b := by rintro rfl; rw [hM] at hc; cases hc
  rw [hb.cell hbne]
  exact ht.inv.imm _ _ _ hc
 ·rcases key _ _ ho2 with ⟨rfl, rfl⟩ | ⟨hn, ho3⟩
  ·exact ⟨r, hr, hob⟩
  ·obtain ⟨r', h1, h2⟩ := ht.inv.obj _ _ ho3
   exact ⟨r', h1, h2.but hb (hne _ _ _ ho3 h1 hn)⟩
 ·rcases key _ _ hi with ⟨rfl, rfl⟩ | ⟨hn, hi'⟩ <;> rcases key _ _ hj with ⟨rfl, rfl⟩ | ⟨hn2, hj'⟩
  ·rfl
  ·rw [hr] at h3; injection h3 with h3; subst h3
   exact absurd h5.symm (hne _ _ _ hj' h4 hn2)
  ·rw [hr] at h4; injection h4 with h4; subst h4
   exact absurd h5 (hne _ _ _ hi' h3 hn)
  ·exact ht.inv.sep _ _ _ _ _ _ hi' hj' h3 h4 h5
 ·obtain ⟨h1, h2, hM3⟩ := ht.frame b o hbo
  refine ⟨by rw [hb.heap _ (fun e => h2 _ _ _ ho hr e.symm)]; exact h1, fun id' ob2 r' ho2 hr2 => ?_, hM3⟩
  rcases key _ _ ho2 with ⟨rfl, rfl⟩ | ⟨hn, ho3⟩
  ·exact h2 _ _ _ ho hr2
  ·exact h2 _ _ _ ho3 hr2
 ·obtain ⟨B, cs, ty, h1, h2, h3⟩ := ht.locs.val _ _ _ hc
  refine ⟨B, cs, ty, h1, ?_, h3⟩
  rw [hb.heap _ (fun e => ht.locs.apart _ _ _ _ _ _ h1 ho hr e.symm)]
  exact h2
 ·rcases key _ _ h2 with ⟨rfl, rfl⟩ | ⟨hn, ho3⟩
  ·exact ht.locs.apart _ _ _ _ _ _ h1 ho h3
  ·exact ht.locs.apart _ _ _ _ _ _ h1 ho3 h3
theorem Tie.modLoc (ht : Tie F G lam h loc w) {sl ver B : Nat} {cells : List V} {cs : Array Value} {ty : TypeId} (hl : lam sl = some (ver, B)) (hb : But B w w1)
  (hB : w1.heap[B]? = some (.cells cs ty (0, 0))) (hc : CR G cells cs) : Tie F G lam h (upd loc sl (some (ver, cells))) w1 := by
 refine ⟨⟨fun b o c hc => ?_, fun id ob ho => ?_, ht.inv.fresh, ht.inv.sep⟩, fun b o hbo => ⟨?_, (ht.frame b o hbo).2⟩, ⟨fun sl' ver' cells' hc' => ?_, fun sl' ver' B' hb' => ?_, ht.locs.imm, ht.locs.apart, ht.locs.inj, ht.locs.frame⟩⟩
 ·have hbne : b ≠ B := by rintro rfl; rw [ht.locs.imm _ _ _ hl] at hc; cases hc
  rw [hb.cell hbne]
  exact ht.inv.imm _ _ _ hc
 ·obtain ⟨r, h1, h2⟩ := ht.inv.obj _ _ ho
  exact ⟨r, h1, h2.but hb (ht.locs.apart _ _ _ _ _ _ hl ho h1)⟩
 ·rw [hb.heap _ (fun e => by rw [e, ht.locs.frame _ _ _ hl] at hbo; cases hbo)]
  exact (ht.frame b o hbo).1
 ·by_cases hsl : sl' = sl
  ·subst hsl
   rw [upd_eq] at hc'
   injection hc' with hc'
   injection hc' with h1 h2
   subst h1 h2
   exact ⟨B, cs, ty, hl, hB, hc⟩
  ·rw [upd_ne _ _ hsl] at hc'
   obtain ⟨B', cs', ty', h1, h2, h3⟩ := ht.locs.val _ _ _ hc'
   refine ⟨B', cs', ty', h1, ?_, h3⟩
   rw [hb.heap _ (fun e => hsl (ht.locs.inj _ _ _ _ _ (e ▸ h1) hl))]
   exact h2
 ·by_cases hsl : sl' = sl
  ·subst hsl
   rw [hl] at hb'
   injection hb' with hb'
   injection hb' with h1 h2
   subst h1
   exact ⟨cells, upd_eq _ _ _⟩
  ·rw [upd_ne _ _ hsl]
   exact ht.locs.conv _ _ _ hb'

end
end Go.LS

/- Each operation of compact code does what the model's operation does: what makes memory, and what writes it. -/
namespace Go.LS

section
variable {F : Nat → Option Obj} {G : Ghost} {lam : Lam} {h : Heap} {loc : Loc} {w w1 : World}
theorem Tie.write (ht : Tie F G lam h loc w) {B : Nat} (hb : But B w w1) (hobj : ∀ id ob r, h.objs id = some ob → G.ρ id = some r → r.b ≠ B) (hlam : ∀ sl ver B', lam sl = some (ver, B') → B' ≠ B)
  (hF : F B = none) (hM : ∀ o c, G.M B o = some c → w1.cell? ⟨B, o, none⟩ = some c) : Tie F G lam h loc w1 := by
 refine ⟨⟨fun b o c hc => ?_, fun id ob ho => ?_, ht.inv.fresh, ht.inv.sep⟩, fun b o hbo => ⟨?_, (ht.frame b o hbo).2⟩, ⟨fun sl ver cells hc => ?_, ht.locs.conv, ht.locs.imm, ht.locs.apart, ht.locs.inj, ht.locs.frame⟩⟩
 ·by_cases hbB : b = B
  ·subst hbB; exact hM _ _ hc
  ·rw [hb.cell hbB]; exact ht.inv.imm _ _ _ hc
 ·obtain ⟨r, h1, h2⟩ := ht.inv.obj _ _ ho
  exact ⟨r, h1, h2.but hb (hobj _ _ _ ho h1)⟩
 ·rw [hb.heap _ (fun e => by rw [e, hF] at hbo; cases hbo)]
  exact (ht.frame b o hbo).1
 ·obtain ⟨B', cs, ty, h1, h2, h3⟩ := ht.locs.val _ _ _ hc
  refine ⟨B', cs, ty, h1, ?_, h3⟩
  rw [hb.heap _ (hlam _ _ _ h1)]
  exact h2
theorem Tie.free (ht : Tie F G lam h loc w) {id : Nat} {ob : AObj} {r : Rec} (ho : h.objs id = some ob) (hr : G.ρ id = some r) :
  (∀ id' ob' r', (h.kill id).objs id' = some ob' → G.ρ id' = some r' → r'.b ≠ r.b) ∧ (∀ sl ver B', lam sl = some (ver, B') → B' ≠ r.b) ∧ F r.b = none := by
 refine ⟨fun id' ob' r' h1 h2 h3 => ?_, fun sl ver B' hb he => ht.locs.apart _ _ _ _ _ _ hb ho hr he.symm, ?_⟩
 ·simp only [Heap.kill, upd] at h1
  split at h1
  ·cases h1
  ·rename_i hne
   exact hne (ht.inv.sep _ _ _ _ _ _ h1 ho h2 hr h3)
 ·cases hf : F r.b with
  | none => rfl
  | some o => exact absurd rfl ((ht.frame _ _ hf).2.1 _ _ _ ho hr)
theorem But.setRow (w : World) (B : Nat) (cs : Array Value) {c0 : Array Value} {ty : TypeId} {fr : Nat × Nat} (hb : w.heap[B]? = some (.cells c0 ty fr)) (hsz : cs.size = c0.size) : But B w (w.setRow B cs) :=
 ⟨fun b hne => setRow_other w B b cs hne, rfl, rfl, rfl, fun b c1 ty1 fr1 h1 => by
  by_cases hne : b = B
  ·subst hne
   rw [hb] at h1
   injection h1 with h1
   injection h1 with e1 e2 e3
   subst e1 e2 e3
   exact ⟨cs, setRow_heap w b _ cs _ _ hb, hsz⟩
  ·exact ⟨c1, by rw [setRow_other w B b cs hne]; exact h1, rfl⟩⟩
theorem row_size {cur : Array Value} {p : Nat} {cy : List Value} (h : p + cy.length ≤ cur.size) : (cur.toList.take p ++ cy ++ cur.toList.drop (p + cy.length)).toArray.size = cur.size := by
 simp only [List.size_toArray, List.length_append, List.length_take, List.length_drop, Array.length_toList]
 omega

end
def okCells : List Value → List V → Bool
 | [], [] => true
 | c :: l, v :: m => okVal c v && v.leaf && okCells l m
 | _, _ => false
theorem okCells_CR : ∀ {l : List Value} {m : List V}, okCells l m = true → ∀ G : Ghost, CR G m l.toArray
 | [], [], _, _ => ⟨rfl, fun j x hx => by simp at hx, fun j x hx => by simp at hx⟩
 | c :: l, v :: m, h, G => by
  simp only [okCells, Bool.and_eq_true] at h
  have ih := okCells_CR h.2 G
  refine ⟨by simpa using ih.size, fun j x hx => ?_, fun j x hx => ?_⟩
  ·cases j with
   | zero => simp at hx; subst hx; exact h.1.2
   | succ j => exact ih.leaf j x (by simpa using hx)
  ·cases j with
   | zero => simp at hx; subst hx; exact okVal_R h.1.1 G
   | succ j => have := ih.rel j x (by simpa using hx); simpa using this
 | [], _ :: _, h, _ => by cases h
 | _ :: _, [], h, _ => by cases h
def okZero (P : Program) (t : TypeId) (zero : List V) : Bool :=
 match P.info? t with
 | some i => match i.zero with
  | some z => okCells z.cells.toList zero
  | none => false
 | none => false

section
variable {P : Program} {o : Oper}
theorem okZero_spec {t : TypeId} {zero : List V} (h : okZero P t zero = true) : ∃ z, (∀ w : World, (zeroValue t).run P w = .ok z w) ∧ ∀ G : Ghost, CR G zero z.cells := by
 unfold okZero at h
 split at h
 ·rename_i i hi
  split at h
  ·rename_i z hz
   exact ⟨z, fun w => by simp [zeroValue, typeInfo, hi, hz], fun G => by simpa using okCells_CR h G⟩
  ·cases h
 ·cases h
theorem made {F : Nat → Option Obj} {w0 : World} {N : Nat} {G : Ghost} {lam : Lam} {s : St} {a : Act} {w : World} (hs : SR F w0 N G lam s a w) {cells : List V} {cs : Array Value} (ty : TypeId) (hc : CR G cells cs)
  {shared : Bool} {d : Option Nat} {v : V} {loc : Loc} {h : Heap}
  (he : madeV shared d s.loc s.h cells = some (v, loc, h)) : Out F w0 G lam v loc h (.pointer (some ⟨w.heap.size, 0, none⟩)) (w.alloc (.cells cs ty)) := by
 have hsame : Same w0 (w.alloc (.cells cs ty)) := hs.same.trans (Ext.alloc w _).same
 unfold madeV at he
 cases shared
 ·simp only [Bool.false_eq_true, if_false] at he
  cases d with
  | none => cases he
  | some d =>
   simp only [Option.some.injEq, Prod.mk.injEq] at he
   obtain ⟨rfl, rfl, rfl⟩ := he
   obtain ⟨h1, h2⟩ := hs.tie.newLoc d ty hc
   exact h2.out (.refl G) h1 hsame ⟨nextVer s.loc d, w.heap.size, upd_eq _ _ _, Nat.le_refl _, fun _ => rfl⟩
 ·simp only [if_true, Option.some.injEq, Prod.mk.injEq] at he
  obtain ⟨rfl, rfl, rfl⟩ := he
  obtain ⟨h1, h2⟩ := hs.tie.newObj (w1 := w.alloc (.cells cs ty)) (Ext.alloc w _) (m := fun _ => none) (r := ⟨w.heap.size, 0, 0⟩) (ob := .var cells) rfl (fun o c hm => by cases hm)
   ⟨cs, ty, heap_alloc_new w _, by
    refine hc.mono (Ghost.le_with (fun o c hm => by rw [hs.tie.noM] at hm; cases hm) (hs.inv.fresh _ (Nat.le_refl _))), fun o => by simp [Ghost.with]⟩
  exact h2.out h1 (.refl lam) hsame (RT.to (by have := R.obj (G := G.with w.heap.size (fun _ => none) s.h.next ⟨w.heap.size, 0, 0⟩) (id := s.h.next) (off := 0) (r := ⟨w.heap.size, 0, 0⟩) (by simp only [Ghost.with]; exact upd_eq _ _ _); exact this))
theorem ok_alloc {t : TypeId} {shared : Bool} {zero : List V} (ho : o.op = .alloc t) (hz : okZero P t zero = true) : OpOK P o (.alloc shared zero) := by
 intro F w0 N G lam s a w hs call v loc h he
 obtain ⟨z, hz1, hz2⟩ := okZero_spec hz
 refine ⟨_, _, .inl ?_, made hs t (hz2 G) he⟩
 simp [execOp, ho, Instr.alloc, hz1, newVar, newRow]
theorem ok_box {t : TypeId} {x : Operand} {x' : Opd} {shared : Bool} {size : Nat} (ho : o.op = .box t x) (hx : okOpd x x' = true) : OpOK P o (.box shared size x') := by
 intro F w0 N G lam s a w hs call v loc h he
 have hr := hs.ev hx
 simp only [evalK] at he
 split at he
 ·rename_i cs hcs
  split at he
  ·refine ⟨_, _, .inl ?_, made hs t (hr.cells hcs) he⟩
   simp [execOp, ho, Instr.box, newVar, newRow]
  ·cases he
 ·cases he

theorem foldl_set {vs : List Value} : ∀ (i off : Nat) (cs : Array Value), off + i + vs.length ≤ cs.size →
  ((vs.zipIdx i).foldl (fun cs (c, j) => cs.setIfInBounds (off + j) c) cs).size = cs.size ∧
  ∀ q, ((vs.zipIdx i).foldl (fun cs (c, j) => cs.setIfInBounds (off + j) c) cs)[q]? = if off + i ≤ q ∧ q < off + i + vs.length then vs[q - (off + i)]? else cs[q]? := by
 induction vs with
 | nil => intro i off cs h; refine ⟨rfl, fun q => ?_⟩; rw [if_neg (by simp)]; rfl
 | cons v vs ih =>
  intro i off cs h
  simp only [List.zipIdx_cons, List.foldl_cons]
  have hsz : (cs.setIfInBounds (off + i) v).size = cs.size := by simp
  obtain ⟨h1, h2⟩ := ih (i + 1) off (cs.setIfInBounds (off + i) v) (by rw [hsz]; simp at h; omega)
  refine ⟨by rw [h1, hsz], fun q => ?_⟩
  rw [h2 q]
  simp only [List.length_cons] at h ⊢
  by_cases hq : q = off + i
  ·subst hq
   rw [if_neg (by omega), if_pos (by omega)]
   have hlt : off + i < cs.size := by omega
   simp [hlt]
  ·rw [Array.getElem?_setIfInBounds_ne (Ne.symm hq)]
   by_cases hq2 : off + (i + 1) ≤ q ∧ q < off + (i + 1) + vs.length
   ·rw [if_pos hq2, if_pos (by omega), show q - (off + i) = (q - (off + (i + 1))) + 1 from by omega, List.getElem?_cons_succ]
   ·rw [if_neg hq2, if_neg (by omega)]
theorem patch_getElem {α : Type} (cs vs : List α) (off : Nat) (h : off + vs.length ≤ cs.length) (q : Nat) :
  (patch cs off vs)[q]? = if off ≤ q ∧ q < off + vs.length then vs[q - off]? else cs[q]? := by
 unfold patch
 by_cases h1 : q < off
 ·rw [List.getElem?_append_left (by simp; omega), List.getElem?_take, if_pos h1, if_neg (by omega)]
 ·rw [List.getElem?_append_right (by simp; omega)]
  simp only [List.length_take, show min off cs.length = off from by omega]
  by_cases h2 : q < off + vs.length
  ·rw [List.getElem?_append_left (by omega), if_pos (by omega)]
  ·rw [List.getElem?_append_right (by omega), List.getElem?_drop, if_neg (by omega)]
   congr 1
   omega
theorem patch_length {α : Type} (cs vs : List α) (off : Nat) (h : off + vs.length ≤ cs.length) : (patch cs off vs).length = cs.length := by
 simp [patch]; omega
theorem CR.patch {G : Ghost} {cs vs : List V} {ca cb : Array Value} {off : Nat} (h1 : CR G cs ca) (h2 : CR G vs cb) (hle : off + vs.length ≤ cs.length) {cc : Array Value} (hsz : cc.size = ca.size)
  (hget : ∀ q, cc[q]? = if off ≤ q ∧ q < off + vs.length then cb[q - off]? else ca[q]?) : CR G (patch cs off vs) cc := by
 refine ⟨by rw [patch_length _ _ _ hle, hsz, h1.size], fun j x hx => ?_, fun j x hx => ?_⟩
 ·rw [patch_getElem _ _ _ hle] at hx
  split at hx
  ·exact h2.leaf _ _ hx
  ·exact h1.leaf _ _ hx
 ·rw [patch_getElem _ _ _ hle] at hx
  have := hget j
  split at hx
  ·rename_i hc
   rw [if_pos hc] at this
   have h3 := h2.rel _ _ hx
   simp only [Array.getD_eq_getD_getElem?] at h3 ⊢
   rw [this]
   exact h3
  ·rename_i hc
   rw [if_neg hc] at this
   have h3 := h1.rel _ _ hx
   simp only [Array.getD_eq_getD_getElem?] at h3 ⊢
   rw [this]
   exact h3
def okParts (place : Nat → Option (Nat × Nat)) : List (Nat × Operand) → List (Nat × Nat × Opd) → Bool
 | [], [] => true
 | (i, x) :: l, (off, size, y) :: m => place i == some (off, size) && okOpd x y && okParts place l m
 | _, _ => false
theorem fill_run {F : Nat → Option Obj} {w0 : World} {N : Nat} {G : Ghost} {lam : Lam} {s : St} {a : Act} {w : World} (hs : SR F w0 N G lam s a w) {place : Nat → Option (Nat × Nat)} :
  ∀ {l : List (Nat × Operand)} {m : List (Nat × Nat × Opd)}, okParts place l m = true → ∀ {cs cs' : List V} {ca : Array Value}, CR G cs ca → fillV cs (m.map fun (x, y, z) => (x, y, s.ev z)) = some cs' →
   ∃ ca', Instr.fill place ca (l.map fun (i, x) => (i, a.eval x)) = some ca' ∧ CR G cs' ca'
 | [], [], _, cs, cs', ca, hc, hf => by
  simp only [List.map_nil, fillV, Option.some.injEq] at hf
  subst hf
  exact ⟨ca, rfl, hc⟩
 | (i, x) :: l, (off, size, y) :: m, h, cs, cs', ca, hc, hf => by
  simp only [okParts, Bool.and_eq_true, beq_iff_eq] at h
  obtain ⟨⟨hp, hx⟩, hrest⟩ := h
  simp only [List.map_cons, fillV] at hf
  split at hf
  ·rename_i vs hv
   split at hf
   ·rename_i hsz
    split at hf
    ·rename_i hle
     have hvs := (hs.ev hx).cells hv
     have hn : (a.eval x).cells.size = size := by rw [← hvs.size, hsz]
     have hle2 : off + (a.eval x).cells.size ≤ ca.size := by rw [hn, ← hc.size]; exact hle
     obtain ⟨f1, f2⟩ := foldl_set (vs := (a.eval x).cells.toList) 0 off ca (by simpa using hle2)
     have hpc := hc.patch hvs (off := off) (by omega) f1 (fun q => by
      rw [f2 q]
      simp only [Nat.add_zero, Array.length_toList, Array.getElem?_toList]
      rw [hvs.size])
     obtain ⟨ca', g1, g2⟩ := fill_run hs hrest hpc hf
     refine ⟨ca', ?_, g2⟩
     simp only [List.map_cons, Instr.fill, hp]
     rw [if_neg (by simp [hn]; omega)]
     rw [← g1]
     congr 1
     rw [← Array.foldl_toList]
     simp
    ·cases hf
   ·cases hf
  ·cases hf
 | [], _ :: _, h, _, _, _, _, _ => by cases h
 | _ :: _, [], h, _, _, _, _, _ => by cases h

end
end Go.LS

/- Each operation of compact code does what the model's operation does: values and slices that are built, stores. -/
namespace Go.LS
structure LR (G : Ghost) (size : Nat) (l : List (List V)) (ca : Array Value) : Prop where
 fit : l.length * size ≤ ca.size
 len : ∀ (i : Nat) (e : List V), l[i]? = some e → e.length = size
 rel : ∀ (i : Nat) (e : List V) (j : Nat) (x : V), l[i]? = some e → e[j]? = some x → x.leaf = true ∧ R G x (ca.getD (i * size + j) undef)
theorem LR.mono {G G' : Ghost} (hl : G.le G') {size : Nat} {l : List (List V)} {ca : Array Value} (h : LR G size l ca) : LR G' size l ca :=
 ⟨h.fit, h.len, fun i e j x hi hj => ⟨(h.rel i e j x hi hj).1, (h.rel i e j x hi hj).2.mono hl⟩⟩
theorem index_lt {i n j size : Nat} (hi : i < n) (hj : j < size) : i * size + j < n * size := by
 have : (i + 1) * size ≤ n * size := Nat.mul_le_mul_right _ hi
 rw [Nat.add_mul, Nat.one_mul] at this
 omega
theorem index_ne {i k j q size : Nat} (hne : i ≠ k) (hj : j < size) (hq : q < size) : i * size + j ≠ k * size + q := by
 intro h
 rcases Nat.lt_or_gt_of_ne hne with hlt | hgt
 ·have := index_lt (size := size) hlt hj; omega
 ·have := index_lt (size := size) hgt hq; omega
theorem LR.cell {G : Ghost} {size : Nat} {l : List (List V)} {ca : Array Value} (h : LR G size l ca) {i j : Nat} {e : List V} {x : V} (hi : l[i]? = some e) (hj : e[j]? = some x) :
  i * size + j < ca.size ∧ ca[i * size + j]? = some (ca.getD (i * size + j) undef) := by
 have h1 : i < l.length := (List.getElem?_eq_some_iff.1 hi).1
 have h2 : j < size := by rw [← h.len _ _ hi]; exact (List.getElem?_eq_some_iff.1 hj).1
 have := Nat.lt_of_lt_of_le (index_lt h1 h2) h.fit
 exact ⟨this, by simp [this]⟩
theorem LR.set {G : Ghost} {size : Nat} {l : List (List V)} {ca cb cc : Array Value} (h : LR G size l ca) {i : Nat} {vs : List V} (hv : CR G vs cb) (hsz : vs.length = size) (hi : i < l.length)
  (hcc : cc.size = ca.size) (hget : ∀ q, cc[q]? = if i * size ≤ q ∧ q < i * size + size then cb[q - i * size]? else ca[q]?) : LR G size (l.set i vs) cc := by
 refine ⟨by simp [hcc]; exact h.fit, fun k e hk => ?_, fun k e j x hk hj => ?_⟩
 ·rw [List.getElem?_set] at hk
  split at hk
  ·injection hk with hk; rw [← hk]; exact hsz
  ·exact h.len _ _ hk
 ·rw [List.getElem?_set] at hk
  split at hk
  ·rename_i hik
   subst hik
   injection hk with hk
   subst hk
   have hjl : j < size := by rw [← hsz]; exact (List.getElem?_eq_some_iff.1 hj).1
   refine ⟨hv.leaf _ _ hj, ?_⟩
   have h3 := hv.rel _ _ hj
   simp only [Array.getD_eq_getD_getElem?] at h3 ⊢
   rw [hget, if_pos (by omega), show i * size + j - i * size = j from by omega]
   exact h3
  ·rename_i hne
   obtain ⟨h1, h2⟩ := h.rel _ _ _ _ hk hj
   refine ⟨h1, ?_⟩
   have hjl : j < size := by rw [← h.len _ _ hk]; exact (List.getElem?_eq_some_iff.1 hj).1
   simp only [Array.getD_eq_getD_getElem?] at h2 ⊢
   rw [hget, if_neg ?_]
   ·exact h2
   ·intro hc
    exact index_ne (size := size) (j := j) (q := k * size + j - i * size) (Ne.symm hne) hjl (by omega) (by omega)
theorem getD_range_map {n : Nat} {f : Nat → Value} {q : Nat} (h : q < n) : ((Array.range n).map f).getD q undef = f q := by
 simp [h]
theorem LR.replicate {G : Ghost} {zero : List V} {z : Array Value} (n : Nat) (hz : CR G zero z) : LR G zero.length (List.replicate n zero) ((Array.range (n * zero.length)).map (z[· % z.size]!)) := by
 refine ⟨by simp, fun i e hi => ?_, fun i e j x hi hj => ?_⟩
 ·have := List.mem_of_getElem? hi
  rw [List.eq_of_mem_replicate this]
 ·have he := List.eq_of_mem_replicate (List.mem_of_getElem? hi)
  subst he
  have hi' : i < n := by have := (List.getElem?_eq_some_iff.1 hi).1; simpa using this
  have hj' : j < e.length := (List.getElem?_eq_some_iff.1 hj).1
  refine ⟨hz.leaf _ _ hj, ?_⟩
  rw [getD_range_map (index_lt hi' hj')]
  have hjz : j < z.size := by rw [← hz.size]; exact hj'
  have hmod : (i * e.length + j) % z.size = j := by
   rw [hz.size, Nat.mul_comm, Nat.mul_add_mod]
   exact Nat.mod_eq_of_lt hjz
  rw [hmod]
  have := hz.rel _ _ hj
  simpa [hjz] using this

section
variable {P : Program} {o : Oper}
def okPartsL : List (Nat × Operand) → List (Nat × Opd) → Bool
 | [], [] => true
 | (i, x) :: l, (i', y) :: m => i == i' && okOpd x y && okPartsL l m
 | _, _ => false
theorem fillL_run {F : Nat → Option Obj} {w0 : World} {N : Nat} {G : Ghost} {lam : Lam} {s : St} {a : Act} {w : World} (hs : SR F w0 N G lam s a w) {size : Nat} :
  ∀ {l : List (Nat × Operand)} {m : List (Nat × Opd)}, okPartsL l m = true → ∀ {es es' : List (List V)} {ca : Array Value}, LR G size es ca → es.length * size = ca.size →
   fillL size es (m.map fun (i, z) => (i, s.ev z)) = some es' →
   ∃ ca', Instr.fill (fun i => some (i * size, size)) ca (l.map fun (i, x) => (i, a.eval x)) = some ca' ∧ LR G size es' ca' ∧ es'.length = es.length ∧ ca'.size = ca.size
 | [], [], _, es, es', ca, hc, _, hf => by
  simp only [List.map_nil, fillL, Option.some.injEq] at hf
  subst hf
  exact ⟨ca, rfl, hc, rfl, rfl⟩
 | (i, x) :: l, (i', y) :: m, h, es, es', ca, hc, hsz0, hf => by
  simp only [okPartsL, Bool.and_eq_true, beq_iff_eq] at h
  obtain ⟨⟨rfl, hx⟩, hrest⟩ := h
  simp only [List.map_cons, fillL] at hf
  split at hf
  ·rename_i vs hv
   split at hf
   ·rename_i hsz
    split at hf
    ·rename_i hle
     have hvs := (hs.ev hx).cells hv
     have hn : (a.eval x).cells.size = size := by rw [← hvs.size, hsz]
     have hle2 : i * size + (a.eval x).cells.size ≤ ca.size := by
      rw [hn, ← hsz0]
      have : (i + 1) * size ≤ es.length * size := Nat.mul_le_mul_right _ hle
      rw [Nat.add_mul, Nat.one_mul] at this
      exact this
     obtain ⟨f1, f2⟩ := foldl_set (vs := (a.eval x).cells.toList) 0 (i * size) ca (by simpa using hle2)
     have hpc := hc.set hvs hsz hle f1 (fun q => by
      rw [f2 q]
      simp only [Nat.add_zero, Array.length_toList, Array.getElem?_toList, hn])
     obtain ⟨ca', g1, g2, g3, g4⟩ := fillL_run hs hrest hpc (by simp only [List.length_set]; rw [hsz0, f1]) hf
     refine ⟨ca', ?_, g2, by simpa using g3, by rw [g4, f1]⟩
     simp only [List.map_cons, Instr.fill]
     rw [if_neg (by simp [hn]; omega)]
     rw [← g1]
     congr 1
     rw [← Array.foldl_toList]
     simp
    ·cases hf
   ·cases hf
  ·cases hf
 | [], _ :: _, h, _, _, _, _, _, _ => by cases h
 | _ :: _, [], h, _, _, _, _, _, _ => by cases h
theorem run_list_mapM {α β : Type} {f : α → Sem β} {g : α → β} {w : World} : ∀ (l : List α), (∀ x ∈ l, (f x).run P w = .ok (g x) w) → (l.mapM f).run P w = .ok (l.map g) w
 | [], _ => by simp
 | x :: l, h => by
  have ih := run_list_mapM l (fun y hy => h y (by simp [hy]))
  simp [List.mapM_cons, h x (by simp), ih]
theorem run_array_mapM {α β : Type} {f : α → Sem β} {g : α → β} {w : World} (l : Array α) (h : ∀ x ∈ l.toList, (f x).run P w = .ok (g x) w) : (l.mapM f).run P w = .ok (l.map g) w := by
 rw [Array.mapM_eq_mapM_toList]
 simp only [Sem.run_map, run_list_mapM l.toList h, Result.andThen_ok]
 congr 1
 apply Array.ext'
 simp
def placeB (P : Program) (fs : Array Field) (i : Nat) : Option (Nat × Nat) :=
 match fs[i]? with
 | some f => match sizeB P f.type with
  | some n => some (f.offset, n)
  | none => none
 | none => none
theorem ok_build {t : TypeId} {fs : Array Field} {parts : Array (Nat × Operand)} {zero : List V} {parts' : List (Nat × Nat × Opd)} (ho : o.op = .build t parts) (hz : okZero P t zero = true)
  (hu : P.underlying t = some (.struct fs)) (hall : (fs.toList.all fun f => (sizeB P f.type).isSome) = true) (hp : okParts (placeB P fs) parts.toList parts' = true) : OpOK P o (.build zero parts') := by
 intro F w0 N G lam s a w hs call v loc h he
 obtain ⟨z, hz1, hz2⟩ := okZero_spec hz
 simp only [evalK] at he
 split at he
 ·rename_i cs hcs
  simp only [Option.some.injEq, Prod.mk.injEq] at he
  obtain ⟨rfl, rfl, rfl⟩ := he
  obtain ⟨ca', g1, g2⟩ := fill_run hs hp (hz2 G) hcs
  refine ⟨.agg ca', w, .inl ?_, hs.out (RT.to (.agg g2.size g2.leaf g2.rel))⟩
  have hpl := run_array_mapM (P := P) (w := w) (f := fun f : Field => (do pure (f.offset, ← sizeOf f.type) : Sem (Nat × Nat))) (g := fun f => (f.offset, (sizeB P f.type).getD 0)) fs (fun f hf => by
   have := List.all_eq_true.1 hall f hf
   obtain ⟨n, hn⟩ := Option.isSome_iff_exists.1 this
   simp [run_sizeB hn, hn])
  have hplace : (fun i => (fs.map fun f => (f.offset, (sizeB P f.type).getD 0))[i]?) = placeB P fs := by
   funext i
   unfold placeB
   rw [Array.getElem?_map]
   cases hfi : fs[i]? with
   | none => rfl
   | some f =>
    have := List.all_eq_true.1 hall f (by
     have := Array.mem_of_getElem? hfi
     simpa using this)
    obtain ⟨n, hn⟩ := Option.isSome_iff_exists.1 this
    simp [hn]
  simp only [execOp, ho, Instr.build]
  simp only [Sem.run_bind, hz1, Result.andThen_ok, run_underlying hu]
  simp only [hpl, Result.andThen_ok, hplace]
  have : (parts.map fun x => match x with | (i, x) => (i, a.eval x)).toList = parts.toList.map fun (i, x) => (i, a.eval x) := by simp
  simp only [this, g1, Sem.run_pure, Result.andThen_ok]
 ·cases he
theorem ok_buildA {t e : TypeId} {n : Nat} {size : Nat} {parts : Array (Nat × Operand)} {zero : List V} {parts' : List (Nat × Nat × Opd)} (ho : o.op = .build t parts) (hz : okZero P t zero = true)
  (hu : P.underlying t = some (.array n e)) (hsz : sizeB P e = some size) (hp : okParts (fun i => some (i * size, size)) parts.toList parts' = true) : OpOK P o (.build zero parts') := by
 intro F w0 N G lam s a w hs call v loc h he
 obtain ⟨z, hz1, hz2⟩ := okZero_spec hz
 simp only [evalK] at he
 split at he
 ·rename_i cs hcs
  simp only [Option.some.injEq, Prod.mk.injEq] at he
  obtain ⟨rfl, rfl, rfl⟩ := he
  obtain ⟨ca', g1, g2⟩ := fill_run hs hp (hz2 G) hcs
  refine ⟨.agg ca', w, .inl ?_, hs.out (RT.to (.agg g2.size g2.leaf g2.rel))⟩
  simp only [execOp, ho, Instr.build]
  simp only [Sem.run_bind, hz1, Result.andThen_ok, run_underlying hu, run_sizeB hsz]
  have : (parts.map fun x => match x with | (i, x) => (i, a.eval x)).toList = parts.toList.map fun (i, x) => (i, a.eval x) := by simp
  simp only [this, g1, Sem.run_pure, Result.andThen_ok]
 ·cases he
def cellsOf (ca : Array Value) : Nat → Option Value := fun o => ca[o]?
theorem LR.imm {G' : Ghost} {size : Nat} {l : List (List V)} {ca : Array Value} (h : LR G' size l ca) {B n cap : Nat} {t : Tag} (hn : n = l.length) (hcap : n ≤ cap) (ht : TagOK G' t (some ⟨B, 0, none⟩) n cap B 0 size)
  (hM : ∀ (o : Nat) (c : Value), o < n * size → ca[o]? = some c → G'.M B o = some c) : R G' (.lst t l) (.slice (some ⟨B, 0, none⟩) n cap) := by
 subst hn
 refine R.lst_mk (b := B) (o := 0) (s := size) (fun i j => ca.getD (i * size + j) undef) rfl hcap (fun _ => rfl) ht h.len (fun i e j x hi hj => ?_)
 have h1 : i < l.length := (List.getElem?_eq_some_iff.1 hi).1
 have h2 : j < size := by rw [← h.len _ _ hi]; exact (List.getElem?_eq_some_iff.1 hj).1
 exact ⟨by rw [Nat.zero_add]; exact hM _ _ (index_lt h1 h2) (h.cell hi hj).2, (h.rel _ _ _ _ hi hj).1, (h.rel _ _ _ _ hi hj).2⟩
theorem ok_bslice {t e : TypeId} {n size : Nat} {parts : Array (Nat × Operand)} {zero : List V} {parts' : List (Nat × Opd)} {ref : Bool} (ho : o.op = .buildSlice t n parts)
  (hu : P.underlying t = some (.slice e)) (hsz : sizeB P e = some size) (hz : okZero P e zero = true) (hzl : zero.length = size) (hn : n * size ≤ 16777216) (hp : okPartsL parts.toList parts' = true) :
  OpOK P o (.bslice ref n size zero parts') := by
 intro F w0 N G lam s a w hs call v loc h he
 obtain ⟨z, hz1, hz2⟩ := okZero_spec hz
 simp only [evalK] at he
 split at he
 ·rename_i l hl
  subst hzl
  have h0 := LR.replicate n (hz2 G)
  obtain ⟨ca', g1, g2, g3, g4⟩ := fillL_run hs hp h0 (by simp) hl
  have hlen : l.length = n := by rw [g3]; simp
  have hrun : (execOp a.eval o).run P w = .ok (.value (.slice (some ⟨w.heap.size, 0, none⟩) n n)) (w.alloc (.cells ca' e)) := by
   simp only [execOp, ho, Instr.buildSlice]
   have : (parts.map fun x => match x with | (i, x) => (i, a.eval x)).toList = parts.toList.map fun (i, x) => (i, a.eval x) := by simp
   simp only [Sem.run_bind, Result.andThen_ok, run_underlying hu, run_sizeB hsz]
   rw [if_neg (by omega)]
   by_cases hn0 : n * zero.length = 0
   ·have hmap : ∀ f : Nat → Value, (Array.range (n * zero.length)).map f = #[] := fun f => by simp [hn0]
    rw [hmap] at g1
    have h0' : ∀ f : Nat → Value, (Array.range 0).map f = #[] := fun f => by simp
    simp only [Sem.run_pure, Result.andThen_ok, hn0, if_true, Sem.run_bind]
    simp only [this, newRow, Sem.run_bind, run_newObj, Result.andThen_ok, Sem.run_pure, h0', g1]
    rfl
   ·simp only [Sem.run_pure, Result.andThen_ok, hn0, if_false, Sem.run_bind, hz1]
    simp only [this, g1, newRow, Sem.run_bind, run_newObj, Result.andThen_ok, Sem.run_pure]
    rfl
  refine ⟨_, _, .inl hrun, ?_⟩
  have hsame : Same w0 (w.alloc (.cells ca' e)) := hs.same.trans (Ext.alloc w _).same
  cases ref
  ·simp only [Bool.false_eq_true, if_false, Option.some.injEq, Prod.mk.injEq] at he
   obtain ⟨rfl, rfl, rfl⟩ := he
   obtain ⟨h1, h2⟩ := hs.tie.newImm (w1 := w.alloc (.cells ca' e)) (Ext.alloc w _) (m := cellsOf ca') (fun q c hc => by rw [cell_heap]; exact ⟨ca', e, _, heap_alloc_new w _, hc⟩)
   refine h2.out h1 (.refl lam) hsame (RT.to ((g2.mono h1).imm hlen.symm (Nat.le_refl _) rfl (fun q c _ hc => ?_)))
   simp only [Ghost.immut, if_true, cellsOf]
   exact hc
  ·simp only [if_true, Option.some.injEq, Prod.mk.injEq] at he
   obtain ⟨rfl, rfl, rfl⟩ := he
   have hle : G.le (G.with w.heap.size (fun _ => none) s.h.next ⟨w.heap.size, zero.length, n⟩) := Ghost.le_with (fun q c hc => by rw [hs.tie.noM] at hc; cases hc) (hs.inv.fresh _ (Nat.le_refl _))
   obtain ⟨h1, h2⟩ := hs.tie.newObj (w1 := w.alloc (.cells ca' e)) (Ext.alloc w _) (m := fun _ => none) (r := ⟨w.heap.size, zero.length, n⟩) (ob := .row l) rfl (fun q c hm => by cases hm)
    ⟨ca', e, heap_alloc_new w _, by show n * _ ≤ _; rw [← hlen]; exact g2.fit, by show l.length ≤ n; omega, fun i el hi => ⟨g2.len _ _ hi, fun j x hj => ⟨(g2.rel _ _ _ _ hi hj).1, (g2.rel _ _ _ _ hi hj).2.mono hle⟩⟩, fun q => by simp [Ghost.with]⟩
   refine h2.out h1 (.refl lam) hsame (RT.to (.row (r := ⟨w.heap.size, zero.length, n⟩) (by simp only [Ghost.with]; exact upd_eq _ _ _) (Nat.le_refl _) (Nat.le_refl _) (by simp) (fun _ => by simp)))
 ·cases he

theorem row_getElem {cur : List Value} {off : Nat} {vs : List Value} (h : off + vs.length ≤ cur.length) (q : Nat) :
  (cur.take off ++ vs ++ cur.drop (off + vs.length)).toArray[q]? = if off ≤ q ∧ q < off + vs.length then vs[q - off]? else cur[q]? := by
 simp only [List.getElem?_toArray]
 rw [List.append_assoc]
 by_cases h1 : q < off
 ·rw [List.getElem?_append_left (by simp; omega), List.getElem?_take, if_pos h1, if_neg (by omega)]
 ·rw [List.getElem?_append_right (by simp; omega)]
  simp only [List.length_take, show min off cur.length = off from by omega]
  by_cases h2 : q < off + vs.length
  ·rw [List.getElem?_append_left (by omega), if_pos (by omega)]
  ·rw [List.getElem?_append_right (by omega), List.getElem?_drop, if_neg (by omega)]
   congr 1
   omega
theorem run_storeVar {t : TypeId} {b q size : Nat} {cv : Value} {cur : Array Value} {ty : TypeId} {w : World} (hsz : sizeB P t = some size) (hn : cv.cells.size = size) (h1 : ∀ v ∈ cv.cells.toList, v.oneCell' = true)
  (hb : w.heap[b]? = some (.cells cur ty (0, 0))) (hle : q + size ≤ cur.size) :
  ∃ cc : Array Value, (storeVar t ⟨b, q, none⟩ cv).run P w = .ok () (w.setRow b cc) ∧ (w.setRow b cc).heap[b]? = some (.cells cc ty (0, 0)) ∧ cc.size = cur.size ∧
   ∀ p, cc[p]? = if q ≤ p ∧ p < q + size then cv.cells[p - q]? else cur[p]? := by
 have hlen : cv.cells.toList.length = size := by simpa using hn
 have hst := run_storeCells_at P b q ty cv.cells.toList 0 cur w hb (by rw [hlen]; omega) h1
 simp only [Nat.add_zero] at hst
 refine ⟨(cur.toList.take q ++ cv.cells.toList ++ cur.toList.drop (q + cv.cells.toList.length)).toArray, ?_, setRow_heap w b cur _ ty _ hb, ?_, fun p => ?_⟩
 ·simp only [storeVar, Sem.run_bind, run_sizeB hsz, Result.andThen_ok]
  rw [if_neg (by simp [hn])]
  simpa using hst
 ·rw [hlen]
  simp
  omega
 ·rw [row_getElem (by rw [hlen]; simp; omega), hlen]
  simp
theorem CR.oneCells {G : Ghost} {vs : List V} {cs : Array Value} (h : CR G vs cs) : ∀ v ∈ cs.toList, v.oneCell' = true := by
 intro v hv
 obtain ⟨j, hj⟩ := List.getElem?_of_mem hv
 have hjl : j < cs.size := by have := (List.getElem?_eq_some_iff.1 hj).1; simpa using this
 have hjv : j < vs.length := by rw [h.size]; exact hjl
 have h1 := h.rel j _ (List.getElem?_eq_getElem hjv)
 have h2 := h.leaf j _ (List.getElem?_eq_getElem hjv)
 have h3 : cs.getD j undef = v := by
  rw [Array.getElem?_toList] at hj
  simp [Array.getD_eq_getD_getElem?, hj]
 rw [h3] at h1
 exact h1.oneCell h2
theorem ok_store {t : TypeId} {p x : Operand} {p' x' : Opd} {size : Nat} (ho : o.op = .store t p x) (hp : okOpd p p' = true) (hx : okOpd x x' = true) (hsz : sizeB P t = some size) : OpOK P o (.store size p' x') := by
 intro F w0 N G lam s a w hs call v loc h he
 have hrp := hs.ev hp
 have hrx := hs.ev hx
 simp only [evalK] at he
 split at he
 ·rename_i vs hvs
  split at he
  ·rename_i hlen
   have hc := hrx.cells hvs
   have hn : (a.eval x).cells.size = size := by rw [← hc.size]; exact hlen
   have hrun : ∀ b q (w1 : World), a.eval p = .pointer (some ⟨b, q, none⟩) → (storeVar t ⟨b, q, none⟩ (a.eval x)).run P w = .ok () w1 → Runs P a o w undef w1 := by
    intro b q w1 h1 h2
    refine .inr ⟨?_, rfl⟩
    simp [execOp, ho, Instr.storeAt, h1, Instr.sureAddr, h2]
   split at he
   ·rename_i loc' h' hput
    simp only [Option.some.injEq, Prod.mk.injEq] at he
    obtain ⟨rfl, rfl, rfl⟩ := he
    have hundef : ∀ G' : Ghost, RT G' lam (.tup []) undef := fun G' => RT.to (.tup (l := []) (cs := #[]) rfl (fun j x hx => by simp at hx))
    cases hpv : s.ev p' with
    | loc sl ver off =>
     rw [hpv] at hput hrp
     simp only [putP] at hput
     obtain ⟨cv, B, h1, h2, h3⟩ := hrp
     split at hput
     ·rename_i ver' cs hl
      split at hput
      ·rename_i hv
       subst hv
       split at hput
       ·rename_i hle
        injection hput with hput
        injection hput with e1 e2
        subst e1 e2
        obtain ⟨B', ca, ty, h4, h5, h6⟩ := hs.locs.val _ _ _ hl
        rw [h1] at h4
        injection h4 with h4
        injection h4 with h4 h4'
        subst h4 h4'
        obtain ⟨cc, r1, r2, r3, r4⟩ := run_storeVar (P := P) hsz hn hc.oneCells h5 (q := off) (by rw [← h6.size]; omega)
        refine ⟨undef, _, hrun B off _ (h3 rfl) r1, ?_⟩
        have ht := hs.tie.modLoc h1 (But.setRow w B cc h5 r3) r2 (h6.patch hc hle r3 (fun q => by rw [r4 q, ← hlen]))
        exact ht.out (.refl G) (.refl lam) (hs.same.trans (But.setRow w B cc h5 r3).same) (hundef G)
       ·cases hput
      ·cases hput
     ·cases hput
    | obj id off =>
     rw [hpv] at hput hrp
     simp only [putP] at hput
     split at hput
     ·rename_i cs hob
      split at hput
      ·rename_i hle
       injection hput with hput
       injection hput with e1 e2
       subst e1 e2
       obtain ⟨r, h1, ca, ty, h5, h6, h7⟩ := hs.inv.obj _ _ hob
       have hrp : R G _ _ := hrp
       have hpc : a.eval p = .pointer (some ⟨r.b, off, none⟩) := by
        cases hcp : a.eval p <;> rw [hcp] at hrp <;> cases hrp
        rename_i r' hr'
        rw [h1] at hr'
        injection hr' with hr'
        rw [hr']
       obtain ⟨cc, r1, r2, r3, r4⟩ := run_storeVar (P := P) hsz hn hc.oneCells h5 (q := off) (by rw [← h6.size]; omega)
       refine ⟨undef, _, hrun r.b off _ hpc r1, ?_⟩
       have ht := hs.tie.modObj (ob' := .var (patch cs off vs)) hob h1 (But.setRow w r.b cc h5 r3) h7 ⟨cc, ty, r2, h6.patch hc hle r3 (fun q => by rw [r4 q, ← hlen]), h7⟩
       exact ht.out (.refl G) (.refl lam) (hs.same.trans (But.setRow w r.b cc h5 r3).same) (hundef G)
      ·cases hput
     ·cases hput
    | elt id i off =>
     rw [hpv] at hput hrp
     simp only [putP] at hput
     split at hput
     ·rename_i l hob
      split at hput
      ·rename_i el hel
       split at hput
       ·rename_i hle
        injection hput with hput
        injection hput with e1 e2
        subst e1 e2
        obtain ⟨r, h1, ca, ty, h5, h6, h7, h8, h9⟩ := hs.inv.obj _ _ hob
        have hrp : R G _ _ := hrp
        have hpc : a.eval p = .pointer (some ⟨r.b, i * r.s + off, none⟩) := by
         cases hcp : a.eval p <;> rw [hcp] at hrp <;> cases hrp
         rename_i r' hr'
         rw [h1] at hr'
         injection hr' with hr'
         rw [hr']
        have hi : i < l.length := (List.getElem?_eq_some_iff.1 hel).1
        have hell : el.length = r.s := (h8 _ _ hel).1
        have hin : i * r.s + r.s ≤ ca.size := by
         have : (i + 1) * r.s ≤ r.cap * r.s := Nat.mul_le_mul_right _ (by omega)
         rw [Nat.add_mul, Nat.one_mul] at this
         omega
        obtain ⟨cc, r1, r2, r3, r4⟩ := run_storeVar (P := P) hsz hn hc.oneCells h5 (q := i * r.s + off) (by omega)
        refine ⟨undef, _, hrun r.b _ _ hpc r1, ?_⟩
        have ht := hs.tie.modObj (ob' := .row (l.set i (patch el off vs))) hob h1 (But.setRow w r.b cc h5 r3) h9 ⟨cc, ty, r2, by rw [r3]; exact h6, by simpa using h7, fun k e hk => ?_, h9⟩
        ·exact ht.out (.refl G) (.refl lam) (hs.same.trans (But.setRow w r.b cc h5 r3).same) (hundef G)
        ·rw [List.getElem?_set] at hk
         split at hk
         ·rename_i hik
          subst hik
          injection hk with hk
          subst hk
          refine ⟨by rw [patch_length _ _ _ hle]; exact hell, fun j x hj => ?_⟩
          have hjl : j < r.s := by have := (List.getElem?_eq_some_iff.1 hj).1; rw [patch_length _ _ _ hle] at this; omega
          rw [patch_getElem _ _ _ hle] at hj
          have hr4 := r4 (i * r.s + j)
          simp only [Array.getD_eq_getD_getElem?]
          split at hj
          ·rename_i hc2
           rw [if_pos (by omega)] at hr4
           have h3 := hc.rel _ _ hj
           simp only [Array.getD_eq_getD_getElem?] at h3
           rw [hr4, show i * r.s + j - (i * r.s + off) = j - off from by omega]
           exact ⟨hc.leaf _ _ hj, h3⟩
          ·rename_i hc2
           rw [if_neg (by omega)] at hr4
           rw [hr4]
           have := (h8 _ _ hel).2 j x hj
           simpa [Array.getD_eq_getD_getElem?] using this
         ·rename_i hik
          obtain ⟨h10, h11⟩ := h8 _ _ hk
          refine ⟨h10, fun j x hj => ?_⟩
          have hjl : j < r.s := by rw [← h10]; exact (List.getElem?_eq_some_iff.1 hj).1
          have hr4 := r4 (k * r.s + j)
          rw [if_neg (fun hc2 => index_ne (size := r.s) (j := j) (q := k * r.s + j - i * r.s) (Ne.symm hik) hjl (by omega) (by omega))] at hr4
          have := h11 j x hj
          simp only [Array.getD_eq_getD_getElem?] at this ⊢
          rw [hr4]
          exact this
       ·cases hput
      ·cases hput
     ·cases hput
    | _ => rw [hpv] at hput; simp [putP] at hput
   ·cases he
  ·cases he
 ·cases he

end
end Go.LS

/- Each operation of compact code does what the model's operation does: maps. -/
namespace Go.LS
theorem V.retag_leaf {v : V} (h : v.leaf = true) : v.retag.leaf = true := by
 cases v <;> first | rfl | (simp only [V.retag]; rfl) | cases h
theorem R.retag {G : Ghost} {v : V} {c : Value} (h : R G v c) : R G v.retag c := by
 induction h with
 | lst f hlen hcap ha ht hs hM hl hR ih =>
  rename_i t l a len cap b o s
  simp only [V.retag, V.retagLL_map]
  have key : ∀ (i : Nat) (e' : List V), (l.map fun e => e.map V.retag)[i]? = some e' → ∃ e, l[i]? = some e ∧ e' = e.map V.retag := fun i e' hi => by
   rw [List.getElem?_map, Option.map_eq_some_iff] at hi
   obtain ⟨e, h1, h2⟩ := hi
   exact ⟨e, h1, h2.symm⟩
  have key2 : ∀ (e : List V) (j : Nat) (x' : V), (e.map V.retag)[j]? = some x' → ∃ x, e[j]? = some x ∧ x' = x.retag := fun e j x' hj => by
   rw [List.getElem?_map, Option.map_eq_some_iff] at hj
   obtain ⟨x, h1, h2⟩ := hj
   exact ⟨x, h1, h2.symm⟩
  refine .lst (b := b) (o := o) (s := s) f (by simpa using hlen) hcap (fun hne => ha (fun h0 => hne (by rw [h0]; rfl))) trivial (fun i e' hi => ?_) (fun i e' j x' hi hj => ?_) (fun i e' j x' hi hj => ?_) (fun i e' j x' hi hj => ?_)
  ·obtain ⟨e, h1, rfl⟩ := key i e' hi
   simpa using hs i e h1
  ·obtain ⟨e, h1, rfl⟩ := key i e' hi
   obtain ⟨x, h2, rfl⟩ := key2 e j x' hj
   exact hM i e j x h1 h2
  ·obtain ⟨e, h1, rfl⟩ := key i e' hi
   obtain ⟨x, h2, rfl⟩ := key2 e j x' hj
   exact V.retag_leaf (hl i e j x h1 h2)
  ·obtain ⟨e, h1, rfl⟩ := key i e' hi
   obtain ⟨x, h2, rfl⟩ := key2 e j x' hj
   exact ih i e j x h1 h2
 | agg hs hl hR ih =>
  simp only [V.retag, V.retagL_map]
  refine .agg (by simpa using hs) (fun j x' hj => ?_) (fun j x' hj => ?_)
  ·rw [List.getElem?_map, Option.map_eq_some_iff] at hj
   obtain ⟨x, h1, rfl⟩ := hj
   exact V.retag_leaf (hl j x h1)
  ·rw [List.getElem?_map, Option.map_eq_some_iff] at hj
   obtain ⟨x, h1, rfl⟩ := hj
   exact ih j x h1
 | tup hs hR ih =>
  simp only [V.retag, V.retagL_map]
  refine .tup (by simpa using hs) (fun j x' hj => ?_)
  rw [List.getElem?_map, Option.map_eq_some_iff] at hj
  obtain ⟨x, h1, rfl⟩ := hj
  exact ih j x h1
 | undef c => exact .undef c
 | bool b => exact .bool b
 | int k n => exact .int k n
 | flt k n => exact .flt k n
 | cplx k x y => exact .cplx k x y
 | str s => exact .str s
 | nilp => exact .nilp
 | obj h => exact .obj h
 | elt h => exact .elt h
 | imm c hM h1 h2 => exact .imm c hM h1 h2
 | row h h1 h2 h3 ha => exact .row h h1 h2 h3 ha
 | mapN => exact .mapN
 | map h => exact .map h
 | fn hx hy lx ly h1 h2 => exact .fn hx hy lx ly h1 h2
 | nilFn => exact .nilFn
theorem R.ids {G : Ghost} {n : Nat} (hn : ∀ id, G.ρ id ≠ none → id < n) {v : V} {c : Value} (h : R G v c) : v.under n = true := by
 induction h with
 | lst f hlen hcap ha ht hs hM hl hR ih =>
  rename_i t l a len cap b o s
  rw [V.under, Bool.and_eq_true]
  refine ⟨?_, V.underLL_iff.2 ih⟩
  cases t with
  | own t => obtain ⟨_, _, r, hr, _⟩ := ht; simp [Tag.under]; exact hn t (by rw [hr]; simp)
  | _ => rfl
 | agg hs hl hR ih => rw [V.under]; exact V.underL_iff.2 ih
 | tup hs hR ih => rw [V.under]; exact V.underL_iff.2 ih
 | imm c hM h1 h2 ih => rw [V.under]; exact V.underL_iff.2 ih
 | fn hx hy lx ly h1 h2 ihx ihy => rw [V.under, Bool.and_eq_true]; exact ⟨V.underL_iff.2 ihx, V.underL_iff.2 ihy⟩
 | obj h => simp [V.under]; exact hn _ (by rw [h]; simp)
 | elt h => simp [V.under]; exact hn _ (by rw [h]; simp)
 | row h h1 h2 h3 ha => simp [V.under]; exact hn _ (by rw [h]; simp)
 | map h => simp [V.under]; exact hn _ (by rw [h]; simp)
 | _ => simp [V.under]
theorem R.forget {G G2 : Ghost} {n : Nat} (hM2 : ∀ b o c, G.M b o = some c → G2.M b o = some c) (hr2 : ∀ id r, id < n → G.ρ id = some r → G2.ρ id = some r) {v : V} {c : Value} (h : R G v c) (hb : v.under n = true) : R G2 v c := by
 induction h with
 | lst f hlen hcap ha ht hs hM hl hR ih =>
  rename_i t l a len cap b o s
  rw [V.under, Bool.and_eq_true, V.underLL_iff] at hb
  refine .lst (b := b) (o := o) (s := s) f hlen hcap ha ?_ hs (fun i e j x hi hj => hM2 _ _ _ (hM i e j x hi hj)) hl (fun i e j x hi hj => ih i e j x hi hj (hb.2 i e j x hi hj))
  cases t with
  | own t => obtain ⟨h1, h2, r, hr, h3⟩ := ht; exact ⟨h1, h2, r, hr2 _ _ (by simpa [Tag.under] using hb.1) hr, h3⟩
  | nil => exact ht
  | ro => exact ht
  | exact => exact ht
 | agg hs hl hR ih => rw [V.under, V.underL_iff] at hb; exact .agg hs hl (fun j x hj => ih j x hj (hb j x hj))
 | tup hs hR ih => rw [V.under, V.underL_iff] at hb; exact .tup hs (fun j x hj => ih j x hj (hb j x hj))
 | imm c hM h1 h2 ih => rw [V.under, V.underL_iff] at hb; exact .imm c (fun j x hj => hM2 _ _ _ (hM j x hj)) h1 (fun j x hj => ih j x hj (hb j x hj))
 | fn hx hy lx ly h1 h2 ihx ihy => rw [V.under, Bool.and_eq_true, V.underL_iff, V.underL_iff] at hb; exact .fn hx hy lx ly (fun j x hj => ihx j x hj (hb.1 j x hj)) (fun j x hj => ihy j x hj (hb.2 j x hj))
 | obj h => exact .obj (hr2 _ _ (by simpa [V.under] using hb) h)
 | elt h => exact .elt (hr2 _ _ (by simpa [V.under] using hb) h)
 | row h h1 h2 h3 ha => exact .row (hr2 _ _ (by simpa [V.under] using hb) h) h1 h2 h3 ha
 | map h => exact .map (hr2 _ _ (by simpa [V.under] using hb) h)
 | undef c => exact .undef c
 | bool b => exact .bool b
 | int k n => exact .int k n
 | flt k n => exact .flt k n
 | cplx k x y => exact .cplx k x y
 | str s => exact .str s
 | nilp => exact .nilp
 | mapN => exact .mapN
 | nilFn => exact .nilFn

section
variable {P : Program} {o : Oper}
theorem ok_mkmap {t : TypeId} {k : IntKind} (ho : o.op = .makeMap t none) : OpOK P o (.mkmap k) := by
 intro F w0 N G lam s a w hs call v loc h he
 simp only [evalK, Option.some.injEq, Prod.mk.injEq] at he
 obtain ⟨rfl, rfl, rfl⟩ := he
 refine ⟨.map (some w.heap.size), w.alloc (.map #[] 0), .inl ?_, ?_⟩
 ·simp [execOp, ho, Instr.makeMap]
 ·obtain ⟨h1, h2⟩ := hs.tie.newObj (w1 := w.alloc (.map #[] 0)) (Ext.alloc w _) (m := fun _ => none) (r := ⟨w.heap.size, 0, 0⟩) (ob := .map k fun _ => none) rfl (fun q c hm => by cases hm)
   ⟨#[], 0, heap_alloc_new w _, ⟨by simp, by simp, fun n v hv => absurd hv (by simp), fun n _ e he => by simp at he⟩, MapKept.stamped_empty 0, fun q => by simp [Ghost.with]⟩
  exact h2.out h1 (.refl lam) (hs.same.trans (Ext.alloc w _).same) (RT.to (R.map (r := ⟨w.heap.size, 0, 0⟩) (by simp only [Ghost.with]; exact upd_eq _ _ _)))
theorem MapR.isKey {G : Ghost} {k : IntKind} {f : Int → Option V} {es : Array MapEntry} (h : MapR G k f es) : ∀ x ∈ es.toList, MapKept.IsKey (.int k) x.key := fun x hx => by
 obtain ⟨n, hn⟩ := h.1 x hx
 rw [hn]
 exact rfl
theorem MapR.found {G : Ghost} {k : IntKind} {f : Int → Option V} {es : Array MapEntry} (h : MapR G k f es) {n : Int} {j : Nat} {e : MapEntry} (he : es.toList[j]? = some e) (hk : e.key = .int k n) :
  ∃ v, f n = some v ∧ R G v e.val := by
 cases hf : f n with
 | none => exact absurd hk (h.2.2.2 n hf e (List.mem_of_getElem? he))
 | some v =>
  obtain ⟨e', h1, h2, h3⟩ := h.2.2.1 n v hf
  obtain ⟨j', hj'⟩ := List.getElem?_of_mem h1
  have hjl : j < es.toList.length := (List.getElem?_eq_some_iff.1 he).1
  have hjl' : j' < es.toList.length := (List.getElem?_eq_some_iff.1 hj').1
  have hnd := h.2.1
  have e1 : (es.toList.map (·.key))[j]? = some (.int k n) := by rw [List.getElem?_map, he, Option.map_some, hk]
  have e2 : (es.toList.map (·.key))[j']? = some (.int k n) := by rw [List.getElem?_map, hj', Option.map_some, h2]
  have hjj : j = j' := by
   have a1 : j < (es.toList.map (·.key)).length := by simpa using hjl
   exact (List.getElem?_inj a1 hnd).1 (by rw [e1, e2])
  subst hjj
  rw [he] at hj'
  injection hj' with hj'
  subst hj'
  exact ⟨v, rfl, h3⟩
theorem ok_lookup {t kt et : TypeId} {m x : Operand} {m' x' : Opd} {ok : Bool} {zero : V} {k : IntKind} {cells : List V} (ho : o.op = .lookup t m x ok) (hm : okOpd m m' = true) (hx : okOpd x x' = true)
  (hu : P.underlying t = some (.map kt et)) (hk : P.underlying kt = some (.int k)) (hz : okZero P et cells = true) (hzz : (aggB P et = some true ∧ zero = .agg cells) ∨ (cells = [zero] ∧ ∃ z, (P.info? et).bind (·.zero) = some z ∧ okVal z zero = true))
  (hagg : aggB P et = some true → ∃ z, (P.info? et).bind (·.zero) = some (.agg z)) :
  OpOK P o (.lookup k zero ok m' x') := by
 intro F w0 N G lam s a w hs call v loc h he
 have hrm := hs.ev hm
 have hrx := hs.ev hx
 obtain ⟨z, hz1, hz2⟩ := okZero_spec hz
 have hzR : R G zero z := by
  have hzz2 : (P.info? et).bind (·.zero) = some z := by
   have := hz1 w
   unfold zeroValue typeInfo at this
   cases hi : P.info? et with
   | none => simp [hi] at this
   | some i =>
    cases hz0 : i.zero with
    | none => simp [hi, hz0] at this
    | some z' => simp [hi, hz0] at this; simp [hz0, this]
  rcases hzz with ⟨ha, rfl⟩ | ⟨rfl, z', h1, h2⟩
  ·obtain ⟨z', hz'⟩ := hagg ha
   rw [hzz2] at hz'
   injection hz' with hz'
   subst hz'
   have := hz2 G
   exact .agg this.size this.leaf this.rel
  ·rw [hzz2] at h1
   injection h1 with h1
   subst h1
   exact okVal_R h2 G
 -- what comes out
 have fin : ∀ (u : V) (c : Value) (b : Bool), R G u c → (execOp a.eval o).run P w = .ok (.value (if ok then .tuple #[c, .bool b] else c)) w →
   some (if ok then V.tup [u, .bool b] else u, s.loc, s.h) = some (v, loc, h) → ∃ cv w', Runs P a o w cv w' ∧ Out F w0 G lam v loc h cv w' := by
  intro u c b hu hrun heq
  simp only [Option.some.injEq, Prod.mk.injEq] at heq
  obtain ⟨rfl, rfl, rfl⟩ := heq
  refine ⟨_, w, .inl hrun, hs.out (RT.to ?_)⟩
  cases ok
  ·exact hu
  ·refine .tup rfl (fun j y hy => ?_)
   rcases j with _ | _ | j
   ·simp at hy; subst hy; exact hu
   ·simp at hy; subst hy; exact .bool b
   ·simp at hy
 simp only [evalK] at he
 split at he
 ·rename_i ik n hm0 hx0
  rw [hm0] at hrm
  rw [hx0] at hrx
  have ex := hrx.int_
  have hrm : R G _ _ := hrm
  have em : a.eval m = .map none := by cases hc : a.eval m <;> rw [hc] at hrm <;> cases hrm; rfl
  split at he
  case isFalse => cases he
  rename_i hik
  subst hik
  refine fin zero z false hzR ?_ he
  have hck := MapKept.run_checkKey (P := P) (w := w) hk (show MapKept.IsKey (.int ik) (.int ik n) from rfl) true 9999
  have hfk : (Instr.findKey kt (.int ik n) []).run P w = .ok none w := by
   simp [Instr.findKey, run_underlying hk, Instr.findNow]
  cases ok <;> simp [execOp, ho, Instr.lookup, run_underlying hu, em, ex, hck, hfk, hz1]
 ·rename_i id ik n hm0 hx0
  rw [hm0] at hrm
  rw [hx0] at hrx
  have ex := hrx.int_
  obtain ⟨r, em, hr⟩ := R.map_inv hrm
  split at he
  ·rename_i k' f hob
   split at he
   ·rename_i hik
    obtain ⟨rfl, rfl⟩ := hik
    obtain ⟨r', hr', es, clock, h5, h6, h7, h8⟩ := hs.inv.obj _ _ hob
    rw [hr] at hr'
    injection hr' with hr'
    subst hr'
    have hkey : ∀ q : IntKind, MapKept.IsKey (.int q) (.int q n) := fun q => rfl
    have hck := MapKept.run_checkKey (P := P) (w := w) hk (hkey _) es.isEmpty 9999
    have hgo := MapKept.run_getObj_map (P := P) h5
    rcases MapKept.findNow_spec (hkey _) es.toList 0 h6.isKey with ⟨f1, f2⟩ | ⟨j, e, f1, f2, f3⟩
    ·have hfk := MapKept.run_findKey (P := P) (w := w) hk f1
     have hfn : f n = none := by
      cases hf : f n with
      | none => rfl
      | some u => obtain ⟨e, h9, h10, _⟩ := h6.2.2.1 n u hf; exact absurd h10 (f2 e h9)
     rw [hfn] at he
     refine fin zero z false hzR ?_ he
     cases ok <;> simp [execOp, ho, Instr.lookup, run_underlying hu, em, ex, hgo, hck, hfk, hz1]
    ·have hfk := MapKept.run_findKey (P := P) (w := w) hk f1
     obtain ⟨u, hu1, hu2⟩ := h6.found f2 f3
     rw [hu1] at he
     refine fin u e.val true hu2 ?_ he
     cases ok <;> simp [execOp, ho, Instr.lookup, run_underlying hu, em, ex, hgo, hck, hfk]
   ·cases he
  ·cases he
 ·cases he

theorem MapR.put {G : Ghost} {k : IntKind} {f : Int → Option V} {es es' : Array MapEntry} {n : Int} {v : V} (h : MapR G k f es) (hk : ∀ e ∈ es'.toList, ∃ m, e.key = .int k m) (hnd : (es'.toList.map (·.key)).Nodup)
  (hnew : ∃ e ∈ es'.toList, e.key = .int k n ∧ R G v e.val) (hold : ∀ e ∈ es.toList, e.key ≠ .int k n → e ∈ es'.toList) (hback : ∀ e ∈ es'.toList, e.key = .int k n ∨ e ∈ es.toList) :
  MapR G k (fun j => if j = n then some v else f j) es' := by
 refine ⟨hk, hnd, fun m u hu => ?_, fun m hm e he => ?_⟩ <;> dsimp only at *
 ·by_cases hmn : m = n
  ·subst hmn
   rw [if_pos rfl] at hu
   injection hu with hu
   subst hu
   exact hnew
  ·rw [if_neg hmn] at hu
   obtain ⟨e, h1, h2, h3⟩ := h.2.2.1 m u hu
   exact ⟨e, hold e h1 (by rw [h2]; intro hc; injection hc with _ hc; exact hmn hc), h2, h3⟩
 ·by_cases hmn : m = n
  ·subst hmn
   simp at hm
  ·rw [if_neg hmn] at hm
   rcases hback e he with h1 | h1
   ·rw [h1]; intro hc; injection hc with _ hc; exact hmn hc.symm
   ·exact h.2.2.2 m hm e h1
theorem but_setObj {r : Nat} (ob : Obj) (w : World) {es : Array MapEntry} {clock : Nat} (hr : w.heap[r]? = some (.map es clock)) : But r w { w with heap := w.heap.setIfInBounds r ob } := by
 have key : ∀ b : Nat, b ≠ r → (w.heap.setIfInBounds r ob)[b]? = w.heap[b]? := fun b hne => Array.getElem?_setIfInBounds_ne (Ne.symm hne)
 refine ⟨key, rfl, rfl, rfl, fun b c1 ty1 fr1 h1 => ⟨c1, ?_, rfl⟩⟩
 by_cases hne : b = r
 ·subst hne; rw [hr] at h1; cases h1
 ·exact (key b hne).trans h1
theorem ok_mapset {t kt et : TypeId} {m x y : Operand} {m' x' y' : Opd} {k : IntKind} (ho : o.op = .mapUpdate t m x y ∨ o.op = .insert t m x y) (hm : okOpd m m' = true) (hx : okOpd x x' = true) (hy : okOpd y y' = true)
  (hu : P.underlying t = some (.map kt et)) (hk : P.underlying kt = some (.int k)) : OpOK P o (.mapset k m' x' y') := by
 intro F w0 N G lam s a w hs call v loc h he
 have hrm := hs.ev hm
 have hrx := hs.ev hx
 have hry := hs.ev hy
 simp only [evalK] at he
 split at he
 ·rename_i id ik n hm0 hx0
  rw [hm0] at hrm
  rw [hx0] at hrx
  have ex := hrx.int_
  obtain ⟨r, em, hr⟩ := R.map_inv hrm
  split at he
  ·rename_i k' f hob
   split at he
   ·rename_i hik
    obtain ⟨rfl, rfl, hcells⟩ := hik
    simp only [Option.some.injEq, Prod.mk.injEq] at he
    obtain ⟨rfl, rfl, rfl⟩ := he
    obtain ⟨r', hr', es, clock, h5, h6, h7, h8⟩ := hs.inv.obj _ _ hob
    rw [hr] at hr'
    injection hr' with hr'
    subst hr'
    have hR : R G (s.ev y').retag (a.eval y) := (hry.of (by revert hcells; cases s.ev y' <;> simp [V.cells, V.free])).retag
    have hkey : ∀ q : IntKind, MapKept.IsKey (.int q) (.int q n) := fun q => rfl
    have hck := MapKept.run_checkKey (P := P) (w := w) hk (hkey _) false 9999
    have hgo := MapKept.run_getObj_map (P := P) h5
    have hundef : RT G lam (.tup []) undef := RT.to (.tup (l := []) (cs := #[]) rfl (fun j x hx => by simp at hx))
    have fin : ∀ es' clock', (Instr.mapUpdate t (.map (some r.b)) (.int k' n) (a.eval y)).run P w = .ok () { w with heap := w.heap.setIfInBounds r.b (.map es' clock') } →
      MapR G k' (fun j => if j = n then some (s.ev y').retag else f j) es' → MapKept.Stamped es' clock' →
      ∃ cv w', Runs P a o w cv w' ∧ Out F w0 G lam (.tup []) s.loc (s.h.set id (.map k' fun j => if j = n then some (s.ev y').retag else f j)) cv w' := by
     intro es' clock' hrun hmr hst
     refine ⟨undef, { w with heap := w.heap.setIfInBounds r.b (.map es' clock') }, .inr ⟨?_, rfl⟩, ?_⟩
     ·rcases ho with ho | ho <;> simp [execOp, ho, em, ex, hrun]
     ·have ht := hs.tie.modObj (ob' := .map k' fun j => if j = n then some (s.ev y').retag else f j) hob hr (but_setObj (.map es' clock') w h5) h8
       ⟨es', clock', (MapKept.heap_set h5).1, hmr, hst, h8⟩
      exact ht.out (.refl G) (.refl lam) (hs.same.trans (but_setObj (.map es' clock') w h5).same) hundef
    rcases MapKept.findNow_spec (hkey _) es.toList 0 h6.isKey with ⟨f1, f2⟩ | ⟨j, e, f1, f2, f3⟩
    ·have hfk := MapKept.run_findKey (P := P) (w := w) hk f1
     refine fin (es.push { key := .int k' n, val := a.eval y, born := clock }) (clock + 1) ?_ ?_ (MapKept.stamped_push h7 f2)
     ·simp [Instr.mapUpdate, run_underlying hu, hgo, hck, hfk, MapKept.run_setObj_map _ h5, Result.andThen]
     ·refine h6.put (fun e he => ?_) ?_ ⟨{ key := .int k' n, val := a.eval y, born := clock }, by simp, rfl, hR⟩ (fun e he _ => by simp [he]) (fun e he => ?_)
      ·simp only [Array.toList_push, List.mem_append, List.mem_singleton] at he
       rcases he with he | rfl
       ·exact h6.1 e he
       ·exact ⟨n, rfl⟩
      ·exact ((MapKept.stamped_push h7 f2).2.2)
      ·simp only [Array.toList_push, List.mem_append, List.mem_singleton] at he
       rcases he with he | rfl
       ·exact .inr he
       ·exact .inl rfl
    ·have hfk := MapKept.run_findKey (P := P) (w := w) hk f1
     have hj : es[j]? = some e := by simpa using f2
     have hkk : ∀ e', es[j]? = some e' → ({ e' with key := Value.int k' n, val := a.eval y } : MapEntry).key = e'.key := fun e' he' => by rw [hj] at he'; injection he' with he'; rw [← he']; exact f3.symm
     have hmem : ∀ e', e' ∈ (es.modify j fun e => { e with key := Value.int k' n, val := a.eval y }).toList ↔ (e' = { e with key := Value.int k' n, val := a.eval y }) ∨ (e' ∈ es.toList ∧ e'.key ≠ Value.int k' n) := by
      intro e'
      constructor
      ·intro hmem
       obtain ⟨q, hq⟩ := List.getElem?_of_mem hmem
       rw [Array.getElem?_toList, Array.getElem?_modify] at hq
       split at hq
       ·rename_i hqj
        subst hqj
        rw [hj] at hq
        simp at hq
        exact .inl hq.symm
       ·rename_i hqj
        have hq' : es.toList[q]? = some e' := by simpa using hq
        refine .inr ⟨List.mem_of_getElem? hq', fun hke => hqj ?_⟩
        have e1 : (es.toList.map (·.key))[q]? = some (.int k' n) := by rw [List.getElem?_map, hq', Option.map_some, hke]
        have e2 : (es.toList.map (·.key))[j]? = some (.int k' n) := by rw [List.getElem?_map, f2, Option.map_some, f3]
        have a1 : j < (es.toList.map (·.key)).length := (List.getElem?_eq_some_iff.1 e2).1
        exact (List.getElem?_inj a1 h6.2.1).1 (by rw [e1, e2])
      ·rintro (rfl | ⟨h1, h2⟩)
       ·refine List.mem_of_getElem? (i := j) ?_
        rw [Array.getElem?_toList, Array.getElem?_modify, if_pos rfl, hj]
        rfl
       ·obtain ⟨q, hq⟩ := List.getElem?_of_mem h1
        refine List.mem_of_getElem? (i := q) ?_
        rw [Array.getElem?_toList, Array.getElem?_modify]
        rw [Array.getElem?_toList] at hq
        rw [if_neg, hq]
        rintro rfl
        rw [hj] at hq
        injection hq with hq
        rw [← hq] at h2
        exact h2 f3
     have hst := MapKept.stamped_modify h7 j (fun e => { e with key := Value.int k' n, val := a.eval y }) (fun _ _ => rfl) (fun e' _ he' => hkk e' he')
     refine fin (es.modify j fun e => { e with key := .int k' n, val := a.eval y }) clock ?_ ?_ hst
     ·simp [Instr.mapUpdate, run_underlying hu, hgo, hck, hfk, hj, f3, MapKept.run_keyThatStays (hkey _), MapKept.run_setObj_map _ h5, Result.andThen]
     ·refine h6.put (fun e' he' => ?_) hst.2.2 ⟨_, (hmem _).2 (.inl rfl), rfl, hR⟩ (fun e' he' hne => (hmem _).2 (.inr ⟨he', hne⟩)) (fun e' he' => ?_)
      ·rcases (hmem e').1 he' with rfl | ⟨h1, _⟩
       ·exact ⟨n, rfl⟩
       ·exact h6.1 e' h1
      ·rcases (hmem e').1 he' with rfl | ⟨h1, _⟩
       ·exact .inl rfl
       ·exact .inr h1
   ·cases he
  ·cases he
 ·cases he
theorem ok_mapdel {t kt et ty : TypeId} {m x : Operand} {m' x' : Opd} {k : IntKind} {ts : Array TypeId} (ho : o.op = .call { callee := .builtin .delete, args := #[m, x], argTypes := ts }) (hts : ts = #[t, ty])
  (hm : okOpd m m' = true) (hx : okOpd x x' = true) (hu : P.underlying t = some (.map kt et)) (hk : P.underlying kt = some (.int k)) : OpOK P o (.mapdel k m' x') := by
 intro F w0 N G lam s a w hs call v loc h he
 subst hts
 have hrm := hs.ev hm
 have hrx := hs.ev hx
 simp only [evalK] at he
 split at he
 ·rename_i id ik n hm0 hx0
  rw [hm0] at hrm
  rw [hx0] at hrx
  have ex := hrx.int_
  obtain ⟨r, em, hr⟩ := R.map_inv hrm
  split at he
  ·rename_i k' f hob
   split at he
   ·rename_i hik
    obtain ⟨rfl, rfl⟩ := hik
    simp only [Option.some.injEq, Prod.mk.injEq] at he
    obtain ⟨rfl, rfl, rfl⟩ := he
    obtain ⟨r', hr', es, clock, h5, h6, h7, h8⟩ := hs.inv.obj _ _ hob
    rw [hr] at hr'
    injection hr' with hr'
    subst hr'
    have hkey : ∀ q : IntKind, MapKept.IsKey (.int q) (.int q n) := fun q => rfl
    have hck := MapKept.run_checkKey (P := P) (w := w) hk (hkey _) es.isEmpty 9999
    have hgo := MapKept.run_getObj_map (P := P) h5
    have hundef : RT G lam (.tup []) undef := RT.to (.tup (l := []) (cs := #[]) rfl (fun j x hx => by simp at hx))
    have fin : ∀ es', (Builtin.delete_ #[t, ty] o.type #[.map (some r.b), .int k' n]).run P w = .ok (.tuple #[]) { w with heap := w.heap.setIfInBounds r.b (.map es' clock) } →
      MapR G k' (fun j => if j = n then none else f j) es' → MapKept.Stamped es' clock →
      ∃ cv w', Runs P a o w cv w' ∧ Out F w0 G lam (.tup []) s.loc (s.h.set id (.map k' fun j => if j = n then none else f j)) cv w' := by
     intro es' hrun hmr hst
     refine ⟨undef, { w with heap := w.heap.setIfInBounds r.b (.map es' clock) }, .inl ?_, ?_⟩
     ·simp [execOp, ho, resolve, invoke, builtin, em, ex, hrun]
      rfl
     ·have ht := hs.tie.modObj (ob' := .map k' fun j => if j = n then none else f j) hob hr (but_setObj (.map es' clock) w h5) h8
       ⟨es', clock, (MapKept.heap_set h5).1, hmr, hst, h8⟩
      exact ht.out (.refl G) (.refl lam) (hs.same.trans (but_setObj (.map es' clock) w h5).same) hundef
    rcases MapKept.findNow_spec (hkey _) es.toList 0 h6.isKey with ⟨f1, f2⟩ | ⟨j, e, f1, f2, f3⟩
    ·have hfk := MapKept.run_findKey (P := P) (w := w) hk f1
     refine fin es ?_ ⟨h6.1, h6.2.1, fun q u hq => ?_, fun q hq e he => ?_⟩ h7
     ·simp [Builtin.delete_, run_underlying hu, hgo, hck, hfk, MapKept.run_setObj_map _ h5, Result.andThen]
     ·dsimp only at hq
      split at hq
      ·cases hq
      ·exact h6.2.2.1 q u hq
     ·by_cases hqn : q = n
      ·subst hqn; exact f2 e he
      ·dsimp only at hq; rw [if_neg hqn] at hq; exact h6.2.2.2 q hq e he
    ·have hfk := MapKept.run_findKey (P := P) (w := w) hk f1
     have hj : es[j]? = some e := by simpa using f2
     have hsub : (es.eraseIdxIfInBounds j).toList.Sublist es.toList := by
      unfold Array.eraseIdxIfInBounds
      split
      ·simp only [Array.toList_eraseIdx]; exact List.eraseIdx_sublist _ _
      ·exact List.Sublist.refl _
     have hjl : j < es.size := (Array.getElem?_eq_some_iff.1 hj).1
     have htl : (es.eraseIdxIfInBounds j).toList = es.toList.eraseIdx j := by
      unfold Array.eraseIdxIfInBounds
      rw [dif_pos hjl, Array.toList_eraseIdx]
     have hgone : ∀ e' ∈ (es.eraseIdxIfInBounds j).toList, e'.key ≠ .int k' n := by
      intro e' he' hke
      have hst := (MapKept.stamped_erase h7 j)
      rw [htl] at he'
      obtain ⟨q, hq⟩ := List.getElem?_of_mem he'
      rw [List.getElem?_eraseIdx] at hq
      have key : ∀ q', es.toList[q']? = some e' → q' = j := fun q' hq' => by
       have e1 : (es.toList.map (·.key))[q']? = some (.int k' n) := by rw [List.getElem?_map, hq', Option.map_some, hke]
       have e2 : (es.toList.map (·.key))[j]? = some (.int k' n) := by rw [List.getElem?_map, f2, Option.map_some, f3]
       have a1 : q' < (es.toList.map (·.key)).length := (List.getElem?_eq_some_iff.1 e1).1
       exact (List.getElem?_inj a1 h6.2.1).1 (by rw [e1, e2])
      split at hq
      ·have := key _ hq; omega
      ·have := key _ hq; omega
     refine fin (es.eraseIdxIfInBounds j) ?_ ⟨fun e' he' => h6.1 e' (hsub.subset he'), (MapKept.stamped_erase h7 j).2.2, fun q u hq => ?_, fun q hq e' he' => ?_⟩ (MapKept.stamped_erase h7 j)
     ·simp [Builtin.delete_, run_underlying hu, hgo, hck, hfk, MapKept.run_setObj_map _ h5, Result.andThen]
     ·dsimp only at hq
      split at hq
      ·cases hq
      ·rename_i hqn
       obtain ⟨e', h9, h10, h11⟩ := h6.2.2.1 q u hq
       refine ⟨e', ?_, h10, h11⟩
       rw [htl]
       obtain ⟨p, hp⟩ := List.getElem?_of_mem h9
       have hpj : p ≠ j := by
        rintro rfl
        rw [f2] at hp
        injection hp with hp
        subst hp
        rw [f3] at h10
        injection h10 with _ h10
        exact hqn h10.symm
       by_cases hlt : p < j
       ·exact List.mem_of_getElem? (i := p) (by rw [List.getElem?_eraseIdx, if_pos hlt]; exact hp)
       ·exact List.mem_of_getElem? (i := p - 1) (by rw [List.getElem?_eraseIdx, if_neg (by omega), show p - 1 + 1 = p from by omega]; exact hp)
     ·by_cases hqn : q = n
      ·subst hqn; exact hgone e' he'
      ·dsimp only at hq; rw [if_neg hqn] at hq; exact h6.2.2.2 q hq e' (hsub.subset he')
   ·cases he
  ·cases he
 ·cases he

end
end Go.LS

/- Each operation of compact code does what the model's operation does: make, append, copy, clear. -/
namespace Go.LS

section
variable {P : Program} {o : Oper}
def bytesB (P : Program) (t : TypeId) : Option Nat := (P.info? t).map (·.bytes)
theorem hundef (G : Ghost) (lam : Lam) : RT G lam (.tup []) undef := RT.to (.tup (l := []) (cs := #[]) rfl (fun j x hx => by simp at hx))
theorem elems_cells {F : Nat → Option Obj} {w0 : World} {N : Nat} {G : Ghost} {lam : Lam} {s : St} {a : Act} {w : World} (hs : SR F w0 N G lam s a w) {y : V} {c : Value} {m : List (List V)} (hy : R G y c)
  (he : elemsOf s.h y = some m) {size : Nat} (hsz : okSize size m = true) :
  ∃ (ad : Option Addr) (cap : Nat) (news : List Value), c = .slice ad m.length cap ∧ m.length ≤ cap ∧ news.length = m.length * size ∧
   (m ≠ [] → ∃ p : Addr, ad = some p ∧ ∀ (j : Nat) (u : Value), news[j]? = some u → w.cell? (p.add j) = some u) ∧
   (∀ (i : Nat) (e : List V), m[i]? = some e → e.length = size) ∧
   (∀ (i : Nat) (e : List V) (j : Nat) (x : V), m[i]? = some e → e[j]? = some x → x.leaf = true ∧ ∃ u, news[i * size + j]? = some u ∧ R G x u) := by
 -- out of a function of element and place
 have make : ∀ (ad : Option Addr) (cap : Nat) (b q s' : Nat) (f : Nat → Nat → Value), c = .slice ad m.length cap → m.length ≤ cap → (m ≠ [] → ad = some ⟨b, q, none⟩) →
   (∀ (i : Nat) (e : List V), m[i]? = some e → e.length = s') →
   (∀ (i : Nat) (e : List V) (j : Nat) (x : V), m[i]? = some e → e[j]? = some x → w.cell? ⟨b, q + i * s' + j, none⟩ = some (f i j) ∧ x.leaf = true ∧ R G x (f i j)) →
   ∃ (ad : Option Addr) (cap : Nat) (news : List Value), c = .slice ad m.length cap ∧ m.length ≤ cap ∧ news.length = m.length * size ∧
    (m ≠ [] → ∃ p : Addr, ad = some p ∧ ∀ (j : Nat) (u : Value), news[j]? = some u → w.cell? (p.add j) = some u) ∧
    (∀ (i : Nat) (e : List V), m[i]? = some e → e.length = size) ∧
    (∀ (i : Nat) (e : List V) (j : Nat) (x : V), m[i]? = some e → e[j]? = some x → x.leaf = true ∧ ∃ u, news[i * size + j]? = some u ∧ R G x u) := by
  intro ad cap b q s' f h1 h2 h3 h4 h5
  by_cases hm : m = []
  ·subst hm
   exact ⟨ad, cap, [], h1, h2, by simp, fun h => absurd rfl h, fun i e hi => by simp at hi, fun i e j x hi => by simp at hi⟩
  ·have hss : s' = size := (okSize_spec (G := G) hsz h4).resolve_left hm
   subst hss
   refine ⟨ad, cap, (List.range (m.length * s')).map fun k => f (k / s') (k % s'), h1, h2, by simp, fun _ => ⟨_, h3 hm, fun j u hu => ?_⟩, h4, fun i e j x hi hj => ?_⟩
   ·rw [List.getElem?_map, Option.map_eq_some_iff] at hu
    obtain ⟨k, hk, rfl⟩ := hu
    have hkl : j < m.length * s' := by have := (List.getElem?_eq_some_iff.1 hk).1; simpa using this
    have hkj : k = j := by
     rw [List.getElem?_range hkl] at hk
     injection hk with hk; exact hk.symm
    subst hkj
    have hs0 : 0 < s' := by
     rcases Nat.eq_zero_or_pos s' with h0 | h0
     ·rw [h0] at hkl; simp at hkl
     ·exact h0
    have hdiv : k / s' < m.length := by rw [Nat.div_lt_iff_lt_mul hs0]; exact hkl
    have hmod : k % s' < s' := Nat.mod_lt _ hs0
    have hel := List.getElem?_eq_getElem hdiv
    have hlen := h4 _ _ hel
    have hx := List.getElem?_eq_getElem (l := m[k / s']) (i := k % s') (by omega)
    have := (h5 _ _ _ _ hel hx).1
    rw [Addr.add_lit]
    rw [show q + k / s' * s' + k % s' = q + k from by rw [Nat.add_assoc, Nat.mul_comm, Nat.div_add_mod]] at this
    exact this
   ·have h6 := h5 _ _ _ _ hi hj
    have hil : i < m.length := (List.getElem?_eq_some_iff.1 hi).1
    have hjl : j < s' := by rw [← h4 _ _ hi]; exact (List.getElem?_eq_some_iff.1 hj).1
    refine ⟨h6.2.1, f i j, ?_, h6.2.2⟩
    rw [List.getElem?_map, List.getElem?_range (index_lt hil hjl), Option.map_some]
    have e1 : (i * s' + j) / s' = i := by rw [Nat.mul_comm, Nat.mul_add_div (by omega)]; simp [Nat.div_eq_of_lt hjl]
    have e2 : (i * s' + j) % s' = j := by rw [Nat.mul_comm, Nat.mul_add_mod]; exact Nat.mod_eq_of_lt hjl
    rw [e1, e2]
 cases y with
 | lst t l =>
  simp only [elemsOf, Option.some.injEq] at he
  subst he
  obtain ⟨ad, cap, b, q, s', f, h1, h2, h3, h4, h5, h6⟩ := R.lst_inv hy
  exact make ad cap b q s' f h1 h2 h3 h5 (fun i e j x hi hj => ⟨hs.inv.imm _ _ _ (h6 i e j x hi hj).1, (h6 i e j x hi hj).2⟩)
 | row id off len cap =>
  simp only [elemsOf] at he
  split at he
  ·rename_i l hob
   split at he
   ·rename_i hle
    injection he with he
    subst he
    obtain ⟨cap', ad, r, h1, h2, h3, h4, h5, h6⟩ := R.row_inv hy
    obtain ⟨r', hr', ca, ty, z1, z2, z3, z4, z5⟩ := hs.inv.obj _ _ hob
    rw [h2] at hr'
    injection hr' with hr'
    subst hr'
    have hml : ((l.drop off).take len).length = len := by simp; omega
    have hget : ∀ (i : Nat) (e : List V), ((l.drop off).take len)[i]? = some e → i < len ∧ l[off + i]? = some e := by
     intro i e hi
     rw [List.getElem?_take] at hi
     split at hi
     ·rename_i hlt; rw [List.getElem?_drop] at hi; exact ⟨hlt, hi⟩
     ·cases hi
    refine make (some ad) cap' r.b (off * r.s) r.s (fun i j => ca.getD ((off + i) * r.s + j) undef) (by rw [hml]; exact h1) (by omega) (fun hne => ?_) (fun i e hi => (z4 _ _ (hget i e hi).2).1) (fun i e j x hi hj => ?_)
    ·have : len ≠ 0 := by rintro rfl; simp at hne
     rw [h6 (by omega)]
    ·obtain ⟨hlt, hi'⟩ := hget i e hi
     obtain ⟨z6, z7⟩ := z4 _ _ hi'
     have hjl : j < r.s := by rw [← z6]; exact (List.getElem?_eq_some_iff.1 hj).1
     have hil : off + i < r.cap := Nat.lt_of_lt_of_le (List.getElem?_eq_some_iff.1 hi').1 z3
     have hlt2 := Nat.lt_of_lt_of_le (index_lt hil hjl) z2
     refine ⟨?_, z7 j x hj⟩
     rw [cell_heap]
     refine ⟨ca, ty, _, z1, ?_⟩
     rw [show off * r.s + i * r.s + j = (off + i) * r.s + j from by rw [Nat.add_mul]]
     simp [hlt2]
   ·cases he
  ·cases he
 | _ => simp [elemsOf] at he
structure SliceT (P : Program) (t e : TypeId) (size bytes : Nat) : Prop where
 u : P.underlying t = some (.slice e)
 i : ∃ i z, P.info? e = some i ∧ i.zero = some z ∧ i.size = size ∧ i.bytes = bytes ∧ z.cells.size = size
 pos : 0 < size
 bpos : 0 < bytes
theorem getD_append_left {xs ys : Array Value} {q : Nat} (h : q < xs.size) : (xs ++ ys).getD q undef = xs.getD q undef := by
 simp [Array.getElem?_append_left h]
theorem LR.append {G : Ghost} {size : Nat} {l m : List (List V)} {cx cy : List Value} (hx : cx.length = l.length * size) (hy : cy.length = m.length * size)
  (hl : ∀ (i : Nat) (e : List V), l[i]? = some e → e.length = size) (hm : ∀ (i : Nat) (e : List V), m[i]? = some e → e.length = size)
  (rl : ∀ (i : Nat) (e : List V) (j : Nat) (x : V), l[i]? = some e → e[j]? = some x → x.leaf = true ∧ ∃ u, cx[i * size + j]? = some u ∧ R G x u)
  (rm : ∀ (i : Nat) (e : List V) (j : Nat) (x : V), m[i]? = some e → e[j]? = some x → x.leaf = true ∧ ∃ u, cy[i * size + j]? = some u ∧ R G x u)
  {ca : Array Value} (hca : (l.length + m.length) * size ≤ ca.size) (hpre : ∀ q, q < (l.length + m.length) * size → ca[q]? = (cx ++ cy)[q]?) : LR G size (l ++ m) ca := by
 have hlen : ∀ (i : Nat) (e : List V), (l ++ m)[i]? = some e → e.length = size := by
  intro i e hi
  rw [List.getElem?_append] at hi
  split at hi
  ·exact hl _ _ hi
  ·exact hm _ _ hi
 refine ⟨by simpa using hca, hlen, fun i e j x hi hj => ?_⟩
 have hil : i < l.length + m.length := by have := (List.getElem?_eq_some_iff.1 hi).1; simpa using this
 have hjl : j < size := by rw [← hlen _ _ hi]; exact (List.getElem?_eq_some_iff.1 hj).1
 have hq := hpre _ (index_lt hil hjl)
 simp only [Array.getD_eq_getD_getElem?]
 rw [hq]
 rw [List.getElem?_append] at hi
 split at hi
 ·rename_i hlt
  obtain ⟨h1, u, h2, h3⟩ := rl _ _ _ _ hi hj
  have hlt2 : i * size + j < cx.length := by rw [hx]; exact index_lt hlt hjl
  rw [List.getElem?_append_left hlt2, h2]
  exact ⟨h1, h3⟩
 ·rename_i hge
  obtain ⟨h1, u, h2, h3⟩ := rm _ _ _ _ hi hj
  have hge2 : cx.length ≤ i * size + j := by
   rw [hx]
   have : l.length * size ≤ i * size := Nat.mul_le_mul_right _ (by omega)
   omega
  rw [List.getElem?_append_right hge2]
  rw [show i * size + j - cx.length = (i - l.length) * size + j from by
   rw [hx, Nat.sub_mul]
   have : l.length * size ≤ i * size := Nat.mul_le_mul_right _ (by omega)
   omega, h2]
  exact ⟨h1, h3⟩
theorem run_append_new {t ty e : TypeId} {size bytes : Nat} (hT : SliceT P t e size bytes) {w : World} {ad ad' : Option Addr} {n m cap cap' : Nat} {cx cy : List Value} (hx : cx.length = n * size) (hy : cy.length = m * size)
  (hn : ad = none → n = 0 ∧ cap = 0) (hxc : ∀ p : Addr, ad = some p → ∀ (j : Nat) (u : Value), cx[j]? = some u → w.cell? (p.add j) = some u)
  {p' : Addr} (hp' : ad' = some p') (hyc : ∀ (j : Nat) (u : Value), cy[j]? = some u → w.cell? (p'.add j) = some u) (hm : 0 < m) (hcap : cap < n + m) (hb : (n + m) * bytes ≤ 140737488355328) (hnm : n + m ≤ 9223372036854775807) :
  ∃ (c2 : Nat) (ca : Array Value), (Builtin.append_ #[t, t] ty #[.slice ad n cap, .slice ad' m cap']).run P w = .ok (.slice (some ⟨w.heap.size, 0, none⟩) (n + m) c2) (w.drew.alloc (.cells ca e)) ∧
   n + m ≤ c2 ∧ ca.size = c2 * size ∧ ∀ q, q < (n + m) * size → ca[q]? = (cx ++ cy)[q]? := by
 obtain ⟨hu, ⟨i, z, hi, hz, hsz, hby, hzs⟩, hpos, _⟩ := hT
 subst hsz hby hp'
 have hge := grownCap_ge w (n + m) cap e
 have hsize : (cx.toArray ++ cy.toArray ++ Builtin.zeroCells z.cells (grownCap w (n + m) cap e - (n + m))).size = grownCap w (n + m) cap e * i.size := by
  simp only [Array.size_append, List.size_toArray, size_zeroCells, hzs, hx, hy, ← Nat.add_mul]
  congr 1
  omega
 have hpre : ∀ q, q < (n + m) * i.size → (cx.toArray ++ cy.toArray ++ Builtin.zeroCells z.cells (grownCap w (n + m) cap e - (n + m)))[q]? = (cx ++ cy)[q]? := by
  intro q hq
  have hq2 : q < (cx.toArray ++ cy.toArray).size := by simp [hx, hy, ← Nat.add_mul]; exact hq
  rw [Array.getElem?_append_left hq2]
  simp
 refine ⟨grownCap w (n + m) cap e, _, ?_, hge, hsize, hpre⟩
 cases ad with
 | none =>
  obtain ⟨rfl, rfl⟩ := hn rfl
  have hx0 : cx = [] := List.eq_nil_of_length_eq_zero (by simpa using hx)
  subst hx0
  have hr := run_append_nil (P := P) w t ty e i z hu hi hz p' m cap' cy hy hyc hm (by omega) (by have hb := hb; simp only [Nat.zero_add] at hb; omega)
  simpa using hr
 | some p =>
  exact run_append_grow (P := P) w t ty e i z hu hi hz p n cap cx hx (hxc p rfl) p' m cap' cy hy hyc hcap (by omega) (growslice_fits (by omega) hb)

theorem run_append_nothing {t ty e : TypeId} {size bytes : Nat} (hT : SliceT P t e size bytes) {w : World} {ad ad' : Option Addr} {n cap cap' : Nat} (hn : n ≤ cap) :
  (Builtin.append_ #[t, t] ty #[.slice ad n cap, .slice ad' 0 cap']).run P w = .ok (.slice ad n cap) w := by
 obtain ⟨hu, ⟨i, z, hi, hz, hsz, hby, hzs⟩, hpos, _⟩ := hT
 have hf : (Builtin.firstCells i.size 0 (.slice ad' 0 cap')).run P w = .ok #[] w := by
  cases ad' <;> simp [Builtin.firstCells, loadCells, loadCellsFrom]
 cases ad <;> simp [Builtin.append_, run_underlying hu, sizeOf, typeInfo, hi, Builtin.lenOf, hn, hf, storeCells]
theorem run_append_room' {t ty e : TypeId} {size bytes : Nat} (hT : SliceT P t e size bytes) {w : World} {ad' : Option Addr} {b q n m cap cap' : Nat} {cy : List Value} (hy : cy.length = m * size)
  {p' : Addr} (hp' : ad' = some p') (hyc : ∀ (j : Nat) (u : Value), cy[j]? = some u → w.cell? (p'.add j) = some u) (h1 : ∀ u ∈ cy, u.oneCell' = true)
  {cur : Array Value} {ety : TypeId} (hb : w.heap[b]? = some (.cells cur ety (0, 0))) (hroom : n + m ≤ cap) (hfit : q + (n + m) * size ≤ cur.size) :
  (Builtin.append_ #[t, t] ty #[.slice (some ⟨b, q, none⟩) n cap, .slice ad' m cap']).run P w = .ok (.slice (some ⟨b, q, none⟩) (n + m) cap)
   (w.setRow b (cur.toList.take (q + n * size) ++ cy ++ cur.toList.drop (q + n * size + cy.length)).toArray) := by
 obtain ⟨hu, ⟨i, z, hi, hz, hsz, hby, hzs⟩, hpos, _⟩ := hT
 subst hsz hp'
 have hf := run_firstCells_some (P := P) w i.size m p' m cap' cy hy hyc
 have hst := run_storeCells_at P b (q + n * i.size) ety cy 0 cur w hb (by rw [hy]; rw [Nat.add_mul] at hfit; omega) h1
 simp only [Nat.add_zero] at hst
 simp [Builtin.append_, run_underlying hu, sizeOf, typeInfo, hi, Builtin.lenOf, hroom, hf, Addr.add_lit, hst]
theorem row_write {G : Ghost} {l m : List (List V)} {r : Rec} {w : World} {p : Nat} {cy : List Value} (hob : ObjR G (.row l) r w) (hp : p + m.length ≤ l.length) (hy : cy.length = m.length * r.s)
  (hm : ∀ (i : Nat) (e : List V), m[i]? = some e → e.length = r.s) (rm : ∀ (i : Nat) (e : List V) (j : Nat) (x : V), m[i]? = some e → e[j]? = some x → x.leaf = true ∧ ∃ u, cy[i * r.s + j]? = some u ∧ R G x u) :
  ∃ (cur : Array Value) (ty : TypeId), w.heap[r.b]? = some (.cells cur ty (0, 0)) ∧ p * r.s + m.length * r.s ≤ cur.size ∧
   ObjR G (.row (patch l p m)) r (w.setRow r.b (cur.toList.take (p * r.s) ++ cy ++ cur.toList.drop (p * r.s + cy.length)).toArray) := by
 obtain ⟨cur, ty, h1, h2, h3, h4, h5⟩ := hob
 have hfit : p * r.s + m.length * r.s ≤ cur.size := by
  have : (p + m.length) * r.s ≤ r.cap * r.s := Nat.mul_le_mul_right _ (by omega)
  rw [Nat.add_mul] at this
  omega
 have hget := row_getElem (cur := cur.toList) (off := p * r.s) (vs := cy) (by rw [hy]; simpa using hfit)
 refine ⟨cur, ty, h1, hfit, ⟨_, ty, setRow_heap w r.b cur _ ty _ h1, ?_, by rw [patch_length _ _ _ hp]; exact h3, fun i e hi => ?_, h5⟩⟩
 ·simp only [List.size_toArray, List.length_append, List.length_take, List.length_drop, Array.length_toList, hy]
  omega
 ·rw [patch_getElem _ _ _ hp] at hi
  have hil : i < l.length := by
   split at hi
   ·have := (List.getElem?_eq_some_iff.1 hi).1; omega
   ·exact (List.getElem?_eq_some_iff.1 hi).1
  split at hi
  ·rename_i hc
   refine ⟨hm _ _ hi, fun j x hj => ?_⟩
   obtain ⟨g1, u, g2, g3⟩ := rm _ _ _ _ hi hj
   have hjl : j < r.s := by rw [← hm _ _ hi]; exact (List.getElem?_eq_some_iff.1 hj).1
   have hil2 : i - p < m.length := (List.getElem?_eq_some_iff.1 hi).1
   have hlt := index_lt (size := r.s) hil2 hjl
   have hpi : p * r.s ≤ i * r.s := Nat.mul_le_mul_right _ hc.1
   have hsub : (i - p) * r.s = i * r.s - p * r.s := Nat.sub_mul _ _ _
   refine ⟨g1, ?_⟩
   simp only [Array.getD_eq_getD_getElem?]
   rw [hget, if_pos (by rw [hy]; omega), show i * r.s + j - p * r.s = (i - p) * r.s + j from by omega, g2]
   exact g3
  ·rename_i hc
   obtain ⟨g1, g2⟩ := h4 _ _ hi
   refine ⟨g1, fun j x hj => ?_⟩
   have hjl : j < r.s := by rw [← g1]; exact (List.getElem?_eq_some_iff.1 hj).1
   obtain ⟨g3, g4⟩ := g2 j x hj
   refine ⟨g3, ?_⟩
   simp only [Array.getD_eq_getD_getElem?] at g4 ⊢
   rw [hget, if_neg ?_]
   ·simpa using g4
   ·rw [hy]
    intro hc2
    rcases Nat.lt_or_ge i p with hlt | hge
    ·have := index_lt (size := r.s) hlt hjl; omega
    ·have hge2 : p + m.length ≤ i := by omega
     have : (p + m.length) * r.s ≤ i * r.s := Nat.mul_le_mul_right _ hge2
     rw [Nat.add_mul] at this
     omega
theorem cells_oneCell {G : Ghost} {size : Nat} {m : List (List V)} {cy : List Value} (hy : cy.length = m.length * size) (hm : ∀ (i : Nat) (e : List V), m[i]? = some e → e.length = size)
  (rm : ∀ (i : Nat) (e : List V) (j : Nat) (x : V), m[i]? = some e → e[j]? = some x → x.leaf = true ∧ ∃ u, cy[i * size + j]? = some u ∧ R G x u) : ∀ u ∈ cy, u.oneCell' = true := by
 intro u hu
 obtain ⟨k, hk⟩ := List.getElem?_of_mem hu
 have hkl : k < m.length * size := by rw [← hy]; exact (List.getElem?_eq_some_iff.1 hk).1
 have hs0 : 0 < size := by
  rcases Nat.eq_zero_or_pos size with h0 | h0
  ·rw [h0] at hkl; simp at hkl
  ·exact h0
 have hdiv : k / size < m.length := by rw [Nat.div_lt_iff_lt_mul hs0]; exact hkl
 have hel := List.getElem?_eq_getElem hdiv
 have hlen := hm _ _ hel
 have hx := List.getElem?_eq_getElem (l := m[k / size]) (i := k % size) (by rw [hlen]; exact Nat.mod_lt _ hs0)
 obtain ⟨h1, v, h2, h3⟩ := rm _ _ _ _ hel hx
 rw [Nat.mul_comm, Nat.div_add_mod, hk] at h2
 injection h2 with h2
 subst h2
 exact h3.oneCell h1

end
end Go.LS
