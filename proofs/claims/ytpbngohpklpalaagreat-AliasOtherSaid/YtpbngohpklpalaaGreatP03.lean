/- A part of the proof: an abstract machine for the program's code and what each of its functions comes to there. No conditions. -/
import Derived.Test.YtpbngohpklpalaaGreatP02
import Derived.Laws.MakeOwn
import Derived.ChangeKeysEq
import Derived.Maps.RangeRun
import Derived.Control

set_option linter.unusedSimpArgs false
set_option linter.unusedVariables false

/- Each operation of compact code does what the model's operation does: make, append, copy, clear, carried out. -/
namespace Go.LS

section
variable {P : Program} {o : Oper}
def preM (ca : Array Value) (n : Nat) : Nat → Option Value := fun q => if q < n then ca[q]? else none
theorem Tie.newTok {F : Nat → Option Obj} {G : Ghost} {lam : Lam} {h : Heap} {loc : Loc} {w w1 : World} (ht : Tie F G lam h loc w) (hext : Ext w w1) {l : List (List V)} {size c2 : Nat} {ca : Array Value} {e : TypeId}
  (hb : w1.heap[w.heap.size]? = some (.cells ca e (0, 0))) (hc2 : l.length ≤ c2) (hsz : ca.size = c2 * size) (hLR : LR G size l ca) :
  ∃ G', G.le G' ∧ Tie F G' lam (h.new (.tok l.length size)) loc w1 ∧ R G' (.lst (.own h.next) l) (.slice (some ⟨w.heap.size, 0, none⟩) l.length c2) := by
 have hm : ∀ q c, preM ca (l.length * size) q = some c → w1.cell? ⟨w.heap.size, q, none⟩ = some c := by
  intro q c hc
  unfold preM at hc
  split at hc
  ·rw [cell_heap]; exact ⟨ca, e, _, hb, hc⟩
  ·cases hc
 obtain ⟨h1, h2⟩ := ht.newObj hext (m := preM ca (l.length * size)) (r := ⟨w.heap.size, size, c2⟩) (ob := .tok l.length size) rfl hm
  ⟨ca, e, hb, by show c2 * size ≤ _; omega, hc2, rfl, fun q hq => by
   simp only [Ghost.with, if_true, preM] at hq
   split at hq
   ·assumption
   ·exact absurd rfl hq⟩
 refine ⟨_, h1, h2, (hLR.mono h1).imm rfl hc2 ⟨rfl, rfl, ⟨w.heap.size, size, c2⟩, by simp only [Ghost.with]; exact upd_eq _ _ _, rfl, rfl, rfl⟩ (fun q c hq hc => ?_)⟩
 simp only [Ghost.with, if_true, preM, if_pos hq, hc]
theorem Tie.newRow {F : Nat → Option Obj} {G : Ghost} {lam : Lam} {h : Heap} {loc : Loc} {w w1 : World} (ht : Tie F G lam h loc w) (hext : Ext w w1) {l : List (List V)} {size c2 : Nat} {ca : Array Value} {e : TypeId}
  (hb : w1.heap[w.heap.size]? = some (.cells ca e (0, 0))) (hc2 : l.length ≤ c2) (hsz : c2 * size ≤ ca.size) (hLR : LR G size l ca) {n cap : Nat} (hn : n ≤ cap) (hcap : cap ≤ c2) :
  ∃ G', G.le G' ∧ Tie F G' lam (h.new (.row l)) loc w1 ∧ R G' (.row h.next 0 n cap) (.slice (some ⟨w.heap.size, 0, none⟩) n c2) := by
 have hle : G.le (G.with w.heap.size (fun _ => none) h.next ⟨w.heap.size, size, c2⟩) := Ghost.le_with (fun q c hc => by rw [ht.noM] at hc; cases hc) (ht.inv.fresh _ (Nat.le_refl _))
 obtain ⟨h1, h2⟩ := ht.newObj hext (m := fun _ => none) (r := ⟨w.heap.size, size, c2⟩) (ob := .row l) rfl (fun q c hm => by cases hm)
  ⟨ca, e, hb, hsz, hc2, fun i el hi => ⟨hLR.len _ _ hi, fun j x hj => ⟨(hLR.rel _ _ _ _ hi hj).1, (hLR.rel _ _ _ _ hi hj).2.mono hle⟩⟩, fun q => by simp [Ghost.with]⟩
 exact ⟨_, h1, h2, .row (r := ⟨w.heap.size, size, c2⟩) (by simp only [Ghost.with]; exact upd_eq _ _ _) hn hcap (by simp) (fun _ => by simp)⟩
theorem Ext.drewAlloc (w : World) (ob : Obj) : Ext w (w.drew.alloc ob) := (Ext.drew w).trans (Ext.alloc _ _)
theorem drewAlloc_new (w : World) (ob : Obj) : (w.drew.alloc ob).heap[w.heap.size]? = some ob := heap_alloc_new w.drew ob
theorem ok_append {t e : TypeId} {x y : Operand} {x' y' : Opd} {ref : Bool} {size bytes : Nat} {ts : Array TypeId} (ho : o.op = .call { callee := .builtin .append, args := #[x, y], argTypes := ts }) (hts : ts = #[t, t])
  (hx : okOpd x x' = true) (hy : okOpd y y' = true) (hT : SliceT P t e size bytes) : OpOK P o (.append ref size bytes x' y') := by
 intro F w0 N G lam s a w hs call v loc h he
 subst hts
 have hrx := hs.ev hx
 have hry := hs.ev hy
 have hrun : ∀ (c : Value) (w1 : World), (Builtin.append_ #[t, t] o.type #[a.eval x, a.eval y]).run P w = .ok c w1 → Runs P a o w c w1 := fun c w1 hr => .inl (by
  simp [execOp, ho, resolve, invoke, builtin, hr])
 simp only [evalK] at he
 split at he
 case h_2 => cases he
 rename_i v' h' hap
 simp only [Option.some.injEq, Prod.mk.injEq] at he
 obtain ⟨rfl, rfl, rfl⟩ := he
 cases ref
 ·-- by value
  simp only [Bool.false_eq_true, if_false, appendV] at hap
  split at hap
  case h_2 => cases hap
  rename_i tg l m hxv hym
  rw [hxv] at hrx
  obtain ⟨ad, cap, b, q, s', f, hxc, g2, g3, g4, g5, g6⟩ := R.lst_inv hrx
  split at hap
  ·rename_i hm0
   subst hm0
   simp only [Option.some.injEq, Prod.mk.injEq] at hap
   obtain ⟨rfl, rfl⟩ := hap
   have hyR : R G (s.ev y') (a.eval y) := hry.of (by revert hym; cases s.ev y' <;> simp [elemsOf, V.free])
   obtain ⟨ad', cap', cy, hyc, y2, y3, y4, y5, y6⟩ := elems_cells hs hyR hym (size := size) rfl
   refine ⟨_, w, hrun _ w (by rw [hxc, hyc]; exact run_append_nothing (P := P) hT g2), ?_⟩
   rw [← hxc]
   exact hs.out hrx
  ·rename_i hm0
   split at hap
   case isFalse => cases hap
   rename_i hbytes
   split at hap
   case isFalse => cases hap
   rename_i hok
   have hyR : R G (s.ev y') (a.eval y) := hry.of (by revert hym; cases s.ev y' <;> simp [elemsOf, V.free])
   obtain ⟨ad', cap', cy, hyc, y2, y3, y4, y5, y6⟩ := elems_cells hs hyR hym hok.1
   obtain ⟨p', hp', hyl⟩ := y4 hm0
   have hmpos : 0 < m.length := by cases m; exact absurd rfl hm0; simp
   have hnm : l.length + m.length ≤ 9223372036854775807 := by
    have := Nat.le_mul_of_pos_right (l.length + m.length) hT.bpos
    omega
   have hxR : R G (.lst tg l) (a.eval x) := hrx
   obtain ⟨ad2, cap2, cx, z1, z2, z3, z4, z5, z6⟩ := elems_cells hs hxR (m := l) rfl hok.2
   rw [hxc] at z1
   injection z1 with z1 _ z1'
   subst z1 z1'
   have cxc : ∀ p : Addr, ad = some p → ∀ (j : Nat) (u : Value), cx[j]? = some u → w.cell? (p.add j) = some u := fun p hp j u hu => by
    by_cases hl0 : l = []
    ·subst hl0
     have : cx = [] := List.eq_nil_of_length_eq_zero (by simpa using z3)
     subst this
     simp at hu
    ·obtain ⟨p2, hp2, hz⟩ := z4 hl0
     rw [hp] at hp2
     injection hp2 with hp2
     subst hp2
     exact hz j u hu
   have hlen : (l ++ m).length = l.length + m.length := by simp
   have grow : (ad = none → l.length = 0 ∧ cap = 0) → cap < l.length + m.length → ∀ hh : Heap, hh.next = s.h.next → Tie F G lam hh s.loc w →
     ∃ cv w', Runs P a o w cv w' ∧ Out F w0 G lam (.lst (.own s.h.next) (l ++ m)) s.loc (hh.new (.tok (l ++ m).length size)) cv w' := by
    intro hnone hcap hh hnext hti
    obtain ⟨cp, ca, r1, r2, r3, r4⟩ := run_append_new (P := P) (ty := o.type) hT z3 y3 hnone cxc hp' hyl hmpos hcap hbytes hnm
    have hLR : LR G size (l ++ m) ca := LR.append z3 y3 z5 y5 z6 y6 (by rw [r3]; exact Nat.mul_le_mul_right _ r2) r4
    obtain ⟨G', e1, e2, e3⟩ := hti.newTok (Ext.drewAlloc w (.cells ca e)) (drewAlloc_new w _) (by rw [hlen]; exact r2) r3 hLR
    rw [hlen] at e3
    rw [hnext] at e3
    exact ⟨_, _, hrun _ _ (by rw [hxc, hyc]; exact r1), e2.out e1 (.refl lam) (hs.same.trans (Ext.drewAlloc w _).same) (RT.to e3)⟩
   split at hap
   ·-- nil
    simp only [Option.some.injEq, Prod.mk.injEq] at hap
    obtain ⟨rfl, rfl⟩ := hap
    obtain ⟨rfl, rfl⟩ := g4
    exact grow (fun _ => ⟨by omega, rfl⟩) (by omega) s.h rfl hs.tie
   ·-- exact
    simp only [Option.some.injEq, Prod.mk.injEq] at hap
    obtain ⟨rfl, rfl⟩ := hap
    have hcap : cap = l.length := g4
    refine grow (fun hn => ?_) (by omega) s.h rfl hs.tie
    by_cases hl0 : l = []
    ·subst hl0; exact ⟨rfl, hcap⟩
    ·rw [g3 hl0] at hn; cases hn
   ·-- own
    rename_i tk
    split at hap
    case h_2 => cases hap
    rename_i n sz htok
    split at hap
    case isFalse => cases hap
    rename_i hn
    obtain ⟨rfl, rfl⟩ := hn
    simp only [Option.some.injEq, Prod.mk.injEq] at hap
    obtain ⟨rfl, rfl⟩ := hap
    obtain ⟨hadd, hq0, r, hr1, hr2, hr3, hr4⟩ := g4
    subst hq0 hr2 hr4
    obtain ⟨r', hr', ca, ety, k1, k2, k3, k4, k5⟩ := hs.inv.obj _ _ htok
    rw [hr1] at hr'
    injection hr' with hr'
    subst hr'
    have hk := hs.tie.kill tk
    obtain ⟨fr1, fr2, fr3⟩ := hs.tie.free htok hr1
    by_cases hroom : l.length + m.length ≤ r.cap
    ·-- in place
     subst k4
     have hfit : 0 + (l.length + m.length) * r.s ≤ ca.size := by
      have : (l.length + m.length) * r.s ≤ r.cap * r.s := Nat.mul_le_mul_right _ hroom
      omega
     have hrr := run_append_room' (P := P) (ty := o.type) hT (w := w) (cap := r.cap) (cap' := cap') y3 hp' hyl (cells_oneCell y3 y5 y6) k1 hroom hfit
     have hget := row_getElem (cur := ca.toList) (off := 0 + l.length * r.s) (vs := cy) (by rw [y3]; rw [Nat.add_mul] at hfit; simp; omega)
     generalize hcc : (ca.toList.take (0 + l.length * r.s) ++ cy ++ ca.toList.drop (0 + l.length * r.s + cy.length)).toArray = cc at hrr hget
     have hccsz : cc.size = ca.size := by
      rw [← hcc]
      rw [Nat.add_mul] at hfit
      simp only [List.size_toArray, List.length_append, List.length_take, List.length_drop, Array.length_toList, y3]
      omega
     have hold : ∀ q, q < l.length * r.s → cc[q]? = ca[q]? := fun q hq => by
      rw [hget, if_neg (by omega)]
      simp
     have hw := hk.write (But.setRow w r.b cc k1 hccsz) fr1 fr2 fr3 (fun q c hc => by
      have h5 := k5 q (by rw [hc]; simp)
      have h6 := hs.inv.imm _ _ _ hc
      rw [cell_heap] at h6 ⊢
      obtain ⟨cs, ty, fr, h7, h8⟩ := h6
      rw [k1] at h7
      injection h7 with h7
      injection h7 with h7 _ _
      subst h7
      exact ⟨cc, ety, _, setRow_heap w r.b ca cc ety _ k1, by rw [hold q h5]; exact h8⟩)
     have hccb := setRow_heap w r.b ca cc ety _ k1
     have hpre : ∀ q, q < (l.length + m.length) * r.s → cc[q]? = (cx ++ cy)[q]? := by
      intro q hq
      by_cases hql : q < l.length * r.s
      ·rw [hold q hql, List.getElem?_append_left (by rw [z3]; exact hql)]
       have hcq := List.getElem?_eq_getElem (l := cx) (i := q) (by rw [z3]; exact hql)
       have h6 := cxc _ hadd q _ hcq
       rw [Addr.add_lit, cell_heap] at h6
       obtain ⟨cs, ty, fr, h7, h8⟩ := h6
       rw [k1] at h7
       injection h7 with h7
       injection h7 with h7 _ _
       subst h7
       rw [hcq, ← h8, Nat.zero_add]
      ·rw [hget, if_pos (by rw [y3]; rw [Nat.add_mul] at hq; omega), List.getElem?_append_right (by rw [z3]; omega), z3, Nat.zero_add]
     have hLR : LR G r.s (l ++ m) cc := LR.append z3 y3 z5 y5 z6 y6 (by rw [hccsz]; omega) hpre
     have hmI : ∀ q c, preM cc ((l ++ m).length * r.s) q = some c → (w.setRow r.b cc).cell? ⟨r.b, q, none⟩ = some c := by
      intro q c hc
      unfold preM at hc
      split at hc
      ·rw [cell_heap]; exact ⟨cc, ety, _, hccb, hc⟩
      ·cases hc
     obtain ⟨e1, e2⟩ := hw.put (Ext.refl _) (B := r.b) (m := preM cc ((l ++ m).length * r.s)) (r := ⟨r.b, r.s, r.cap⟩) (ob := .tok (l ++ m).length r.s) rfl (fun q c hc => by
      have h5 := k5 q (by rw [hc]; simp)
      have h6 := hs.inv.imm _ _ _ hc
      rw [cell_heap] at h6
      obtain ⟨cs, ty, fr, h7, h8⟩ := h6
      rw [k1] at h7
      injection h7 with h7
      injection h7 with h7 _ _
      subst h7
      unfold preM
      have : q < (l ++ m).length * r.s := by rw [hlen, Nat.add_mul]; omega
      rw [if_pos this, hold q h5]
      exact h8) fr1 fr2 fr3 hmI ⟨cc, ety, hccb, by show r.cap * r.s ≤ _; rw [hccsz]; exact k2, by rw [hlen]; exact hroom, rfl, fun q hq => by
       simp only [Ghost.with, if_true, preM] at hq
       split at hq
       ·assumption
       ·exact absurd rfl hq⟩
     refine ⟨_, _, hrun _ _ (by rw [hxc, hyc, hadd]; exact hrr), e2.out e1 (.refl lam) (hs.same.trans (But.setRow w r.b cc k1 hccsz).same) (RT.to ((hLR.mono e1).imm hlen.symm hroom
      ⟨rfl, rfl, ⟨r.b, r.s, r.cap⟩, by simp only [Ghost.with]; exact upd_eq _ _ _, rfl, rfl, rfl⟩ (fun q c hq hc => ?_)))⟩
     simp only [Ghost.with, if_true, preM, hlen, if_pos hq, hc]
    ·exact grow (fun hn => by rw [hadd] at hn; cases hn) (by omega) (s.h.kill tk) rfl hk
   ·cases hap
 ·-- a row of the heap
  simp only [if_true, appendR] at hap
  split at hap
  case h_3 => cases hap
  ·-- out of a list
   rename_i tg l m hxv hym
   rw [hxv] at hrx
   split at hap
   case isFalse => cases hap
   rename_i hcond
   obtain ⟨htg, hm0, hbytes, hokl, hokm⟩ := hcond
   simp only [Option.some.injEq, Prod.mk.injEq] at hap
   obtain ⟨rfl, rfl⟩ := hap
   obtain ⟨ad, cap, b, q, s', f, hxc, g2, g3, g4, g5, g6⟩ := R.lst_inv hrx
   have hyR : R G (s.ev y') (a.eval y) := hry.of (by revert hym; cases s.ev y' <;> simp [elemsOf, V.free])
   obtain ⟨ad', cap', cy, hyc, y2, y3, y4, y5, y6⟩ := elems_cells hs hyR hym hokm
   obtain ⟨p', hp', hyl⟩ := y4 hm0
   have hmpos : 0 < m.length := by cases m; exact absurd rfl hm0; simp
   have hnm : l.length + m.length ≤ 9223372036854775807 := by
    have := Nat.le_mul_of_pos_right (l.length + m.length) hT.bpos
    omega
   have hxR : R G (.lst tg l) (a.eval x) := hrx
   obtain ⟨ad2, cap2, cx, z1, z2, z3, z4, z5, z6⟩ := elems_cells hs hxR (m := l) rfl hokl
   rw [hxc] at z1
   injection z1 with z1 _ z1'
   subst z1 z1'
   have hlen : (l ++ m).length = l.length + m.length := by simp
   have hcapn : (ad = none → l.length = 0 ∧ cap = 0) ∧ cap < l.length + m.length := by
    rcases htg with rfl | rfl
    ·obtain ⟨rfl, rfl⟩ := g4
     exact ⟨fun _ => ⟨by omega, rfl⟩, by omega⟩
    ·have hcap : cap = l.length := g4
     refine ⟨fun hn => ?_, by omega⟩
     by_cases hl0 : l = []
     ·subst hl0; exact ⟨rfl, hcap⟩
     ·rw [g3 hl0] at hn; cases hn
   obtain ⟨cp, ca, r1, r2, r3, r4⟩ := run_append_new (P := P) (ty := o.type) (w := w) (cap' := cap') hT z3 y3 hcapn.1 (fun p hp j u hu => by
    by_cases hl0 : l = []
    ·subst hl0
     have : cx = [] := List.eq_nil_of_length_eq_zero (by simpa using z3)
     subst this
     simp at hu
    ·obtain ⟨p2, hp2, hz⟩ := z4 hl0
     rw [hp] at hp2
     injection hp2 with hp2
     subst hp2
     exact hz j u hu) hp' hyl hmpos hcapn.2 hbytes hnm
   have hLR : LR G size (l ++ m) ca := LR.append z3 y3 z5 y5 z6 y6 (by rw [r3]; exact Nat.mul_le_mul_right _ r2) r4
   obtain ⟨G', e1, e2, e3⟩ := hs.tie.newRow (Ext.drewAlloc w (.cells ca e)) (drewAlloc_new w _) (by rw [hlen]; exact r2) (by rw [r3]; exact Nat.le_refl _) hLR (n := l.length + m.length) (cap := l.length + m.length) (Nat.le_refl _) r2
   exact ⟨_, _, hrun _ _ (by rw [hxc, hyc]; exact r1), e2.out e1 (.refl lam) (hs.same.trans (Ext.drewAlloc w _).same) (RT.to e3)⟩
  ·-- out of a row
   rename_i id off len cap m hxv hym
   rw [hxv] at hrx
   obtain ⟨cap', ad, r, hxc, g1, g2, g3, g4, g5⟩ := R.row_inv hrx
   have hyR : R G (s.ev y') (a.eval y) := hry.of (by revert hym; cases s.ev y' <;> simp [elemsOf, V.free])
   split at hap
   ·rename_i hm0
    subst hm0
    simp only [Option.some.injEq, Prod.mk.injEq] at hap
    obtain ⟨rfl, rfl⟩ := hap
    obtain ⟨ad', capy, cy, hyc, y2, y3, y4, y5, y6⟩ := elems_cells hs hyR hym (size := size) rfl
    refine ⟨_, w, hrun _ w (by rw [hxc, hyc]; exact run_append_nothing (P := P) hT (by omega)), ?_⟩
    rw [← hxc]
    exact hs.out hrx
   ·rename_i hm0
    split at hap
    case h_2 => cases hap
    rename_i l hob
    split at hap
    case isFalse => cases hap
    rename_i hcond
    obtain ⟨hle, hokm, hsl⟩ := hcond
    obtain ⟨ad', capy, cy, hyc, y2, y3, y4, y5, y6⟩ := elems_cells hs hyR hym hokm
    obtain ⟨p', hp', hyl⟩ := y4 hm0
    have hmpos : 0 < m.length := by cases m; exact absurd rfl hm0; simp
    obtain ⟨r', hr', hobj⟩ := hs.inv.obj _ _ hob
    rw [g1] at hr'
    injection hr' with hr'
    subst hr'
    have hrs : r.s = size := by
     obtain ⟨ca, ety, k1, k2, k3, k4, k5⟩ := hobj
     cases l with
     | nil => cases hsl
     | cons e0 l0 => rw [← (k4 0 e0 rfl).1]; simpa [hasSize] using hsl
    subst hrs
    have hone := cells_oneCell y3 y5 y6
    split at hap
    ·rename_i hroom
     simp only [Option.some.injEq, Prod.mk.injEq] at hap
     obtain ⟨rfl, rfl⟩ := hap
     have had := g5 (by omega)
     obtain ⟨cur, ety, w1, w2, w3⟩ := row_write (p := off + len) hobj (by omega) y3 y5 y6
     have hr2 := run_append_room' (P := P) (ty := o.type) hT (w := w) (b := r.b) (q := off * r.s) (n := len) (m := m.length) (cap := cap') (cap' := capy) y3 hp' hyl hone w1 (by omega) (by
      rw [Nat.add_mul] at w2 ⊢; omega)
     rw [← Nat.add_mul] at hr2
     have hno : ∀ o, G.M r.b o = none := by obtain ⟨_, _, _, _, _, _, k5⟩ := hobj; exact k5
     have hbut := But.setRow w r.b _ w1 (row_size (p := (off + len) * r.s) (cy := cy) (by rw [y3]; exact w2))
     have ht := hs.tie.modObj hob g1 hbut hno w3
     refine ⟨_, _, hrun _ _ (by rw [hxc, hyc, had]; exact hr2), ht.out (.refl G) (.refl lam) (hs.same.trans hbut.same) (RT.to (.row g1 hroom g3 g4 (fun _ => rfl)))⟩
    ·rename_i hnroom
     split at hap
     case isFalse => cases hap
     rename_i hcond2
     obtain ⟨rfl, hbytes⟩ := hcond2
     simp only [Option.some.injEq, Prod.mk.injEq] at hap
     obtain ⟨rfl, rfl⟩ := hap
     have hnm : len + m.length ≤ 9223372036854775807 := by
      have := Nat.le_mul_of_pos_right (len + m.length) hT.bpos
      omega
     have hk := hs.tie.kill id
     obtain ⟨fr1, fr2, fr3⟩ := hs.tie.free hob g1
     have hno : ∀ o, G.M r.b o = none := by obtain ⟨_, _, _, _, _, _, k5⟩ := hobj; exact k5
     have hlx : (l.take len).length = len := by simp; omega
     have hlen2 : (l.take len ++ m).length = len + m.length := by simp; omega
     -- the old elements
     have hxR : R G (.row id 0 len cap) (a.eval x) := hrx
     have hel : elemsOf s.h (.row id 0 len cap) = some (l.take len) := by
      simp only [elemsOf, hob]
      rw [if_pos (by omega)]
      simp
     obtain ⟨ad2, cap2, cx, z1, z2, z3, z4, z5, z6⟩ := elems_cells hs hxR hel (size := r.s) (by
      cases l with
      | nil => cases hsl
      | cons e0 l0 => cases len <;> simp_all [okSize, hasSize])
     rw [hxc] at z1
     injection z1 with z1 _ z1'
     subst z1 z1'
     rw [hlx] at z3
     by_cases hroom : len + m.length ≤ cap'
     ·-- in place
      have had := g5 (by omega)
      obtain ⟨cur, ety, k1, k2, k3, k4, k5⟩ := hobj
      have hfit : 0 * r.s + (len + m.length) * r.s ≤ cur.size := by
       have : (len + m.length) * r.s ≤ r.cap * r.s := Nat.mul_le_mul_right _ (by omega)
       omega
      have hrr := run_append_room' (P := P) (ty := o.type) hT (w := w) (cap := cap') (cap' := capy) y3 hp' hyl hone k1 hroom hfit
      have hget := row_getElem (cur := cur.toList) (off := 0 * r.s + len * r.s) (vs := cy) (by rw [y3]; rw [Nat.add_mul] at hfit; simp; omega)
      generalize hcc : (cur.toList.take (0 * r.s + len * r.s) ++ cy ++ cur.toList.drop (0 * r.s + len * r.s + cy.length)).toArray = cc at hrr hget
      have hccsz : cc.size = cur.size := by
       rw [← hcc]
       rw [Nat.add_mul] at hfit
       simp only [List.size_toArray, List.length_append, List.length_take, List.length_drop, Array.length_toList, y3]
       omega
      have hw := hk.write (But.setRow w r.b cc k1 hccsz) fr1 fr2 fr3 (fun q c hc => by rw [hno] at hc; cases hc)
      have hccb := setRow_heap w r.b cur cc ety _ k1
      have hpre : ∀ q, q < (len + m.length) * r.s → cc[q]? = (cx ++ cy)[q]? := by
       intro q hq
       by_cases hql : q < len * r.s
       ·rw [hget, if_neg (by omega), List.getElem?_append_left (by rw [z3]; exact hql)]
        have hcq := List.getElem?_eq_getElem (l := cx) (i := q) (by rw [z3]; exact hql)
        have hl0 : l.take len ≠ [] := by
         intro h0
         have h1 := hlx
         rw [h0] at h1
         have h2 : len = 0 := by simpa using h1.symm
         rw [h2] at hql
         simp at hql
        obtain ⟨p2, hp2, hz⟩ := z4 hl0
        injection hp2 with hp2
        subst hp2
        have h6 := hz q _ hcq
        rw [had, Addr.add_lit, cell_heap] at h6
        obtain ⟨cs, ty, fr, h7, h8⟩ := h6
        rw [k1] at h7
        injection h7 with h7
        injection h7 with h7 _ _
        subst h7
        rw [hcq, ← h8]
        simp
       ·rw [hget, if_pos (by rw [y3]; rw [Nat.add_mul] at hq; omega), List.getElem?_append_right (by rw [z3]; omega), z3, Nat.zero_mul, Nat.zero_add]
      have hLR : LR G r.s (l.take len ++ m) cc := LR.append (by rw [hlx]; exact z3) y3 z5 y5 z6 y6 (by rw [hccsz, hlx]; omega) (by rw [hlx]; exact hpre)
      obtain ⟨e1, e2⟩ := hw.put (Ext.refl _) (B := r.b) (m := fun _ => none) (r := ⟨r.b, r.s, cap'⟩) (ob := .row (l.take len ++ m)) rfl (fun q c hc => by rw [hno] at hc; cases hc) fr1 fr2 fr3 (fun q c hc => by cases hc)
       ⟨cc, ety, hccb, by
        show cap' * r.s ≤ _
        rw [hccsz]
        have : cap' * r.s ≤ r.cap * r.s := Nat.mul_le_mul_right _ (by omega)
        omega, by rw [hlen2]; exact hroom, fun i el hi => ⟨hLR.len _ _ hi, fun j x hj => ⟨(hLR.rel _ _ _ _ hi hj).1, (hLR.rel _ _ _ _ hi hj).2.mono (Ghost.le_with (fun q c hc => by rw [hno] at hc; cases hc) (hs.inv.fresh _ (Nat.le_refl _)))⟩⟩,
        fun q => by simp [Ghost.with]⟩
      have h0 : (⟨r.b, 0 * r.s, none⟩ : Addr) = ad := had.symm
      rw [h0] at hrr
      refine ⟨_, _, hrun _ _ (by rw [hxc, hyc]; exact hrr), e2.out e1 (.refl lam) (hs.same.trans (But.setRow w r.b cc k1 hccsz).same) (RT.to (.row (r := ⟨r.b, r.s, cap'⟩) (by simp only [Ghost.with]; exact upd_eq _ _ _) (Nat.le_refl _) hroom (by simp) (fun _ => had)))⟩
     ·obtain ⟨cp, ca, r1, r2, r3, r4⟩ := run_append_new (P := P) (ty := o.type) (w := w) (ad := some ad) (cap := cap') (cap' := capy) hT z3 y3 (fun hn => by cases hn) (fun p hp j u hu => by
        by_cases hl0 : l.take len = []
        ·have h1 := hlx
         rw [hl0] at h1
         have h2 : len = 0 := by simpa using h1.symm
         subst h2
         have : cx = [] := List.eq_nil_of_length_eq_zero (by simpa using z3)
         subst this
         simp at hu
        ·obtain ⟨p2, hp2, hz⟩ := z4 hl0
         rw [hp] at hp2
         injection hp2 with hp2
         subst hp2
         exact hz j u hu) hp' hyl hmpos (by omega) hbytes hnm
      have hLR : LR G r.s (l.take len ++ m) ca := LR.append (by rw [hlx]; exact z3) y3 z5 y5 z6 y6 (by rw [hlx, r3]; exact Nat.mul_le_mul_right _ r2) (by rw [hlx]; exact r4)
      obtain ⟨G', e1, e2, e3⟩ := hk.newRow (Ext.drewAlloc w (.cells ca e)) (drewAlloc_new w _) (by rw [hlen2]; exact r2) (by rw [r3]; exact Nat.le_refl _) hLR (n := len + m.length) (cap := len + m.length) (Nat.le_refl _) r2
      exact ⟨_, _, hrun _ _ (by rw [hxc, hyc]; exact r1), e2.out e1 (.refl lam) (hs.same.trans (Ext.drewAlloc w _).same) (RT.to e3)⟩
theorem zeroCells_get {z : Array Value} {n : Nat} {q : Nat} (h : q < n * z.size) : (Builtin.zeroCells z n).toList[q]? = some (z[q % z.size]!) := by
 simp [Builtin.zeroCells, h]
theorem ok_clear {t e : TypeId} {x : Operand} {x' : Opd} {size : Nat} {zero : List V} {ts : Array TypeId} (ho : o.op = .call { callee := .builtin .clear, args := #[x], argTypes := ts }) (hts : ts = #[t])
  (hx : okOpd x x' = true) (hu : P.underlying t = some (.slice e)) (hz : okZero P e zero = true) : OpOK P o (.clear size zero x') := by
 intro F w0 N G lam s a w hs call v loc h he
 subst hts
 have hrx := hs.ev hx
 obtain ⟨z, hz1, hz2⟩ := okZero_spec hz
 simp only [evalK] at he
 split at he
 ·rename_i id off len cap hxv
  rw [hxv] at hrx
  obtain ⟨cap', ad, r, hxc, g1, g2, g3, g4, g5⟩ := R.row_inv hrx
  split at he
  case h_2 => cases he
  rename_i l hob
  split at he
  case isFalse => cases he
  rename_i hcond
  obtain ⟨hle, hlc, rfl, hsl⟩ := hcond
  simp only [Option.some.injEq, Prod.mk.injEq] at he
  obtain ⟨rfl, rfl, rfl⟩ := he
  obtain ⟨r', hr', hobj⟩ := hs.inv.obj _ _ hob
  rw [g1] at hr'
  injection hr' with hr'
  subst hr'
  have hrs : r.s = zero.length := by
   obtain ⟨ca, ety, k1, k2, k3, k4, k5⟩ := hobj
   cases l with
   | nil => cases hsl
   | cons e0 l0 => rw [← (k4 0 e0 rfl).1]; simpa [hasSize] using hsl
  have hzs : z.cells.size = r.s := by rw [hrs]; exact (hz2 G).size.symm
  have hno : ∀ o, G.M r.b o = none := by obtain ⟨_, _, _, _, _, _, k5⟩ := hobj; exact k5
  obtain ⟨cur, ety, w1, w2, w3⟩ := row_write (p := off) (m := List.replicate len zero) (cy := (Builtin.zeroCells z.cells len).toList) hobj (by simp; omega) (by simp [size_zeroCells, hzs])
   (fun i el hi => by rw [List.eq_of_mem_replicate (List.mem_of_getElem? hi)]; exact hrs.symm) (fun i el j y hi hj => by
    have he := List.eq_of_mem_replicate (List.mem_of_getElem? hi)
    subst he
    have hil : i < len := by have := (List.getElem?_eq_some_iff.1 hi).1; simpa using this
    have hjl : j < el.length := (List.getElem?_eq_some_iff.1 hj).1
    refine ⟨(hz2 G).leaf _ _ hj, _, zeroCells_get (by rw [hzs, hrs]; exact index_lt hil hjl), ?_⟩
    have hmod : (i * r.s + j) % z.cells.size = j := by
     rw [hzs, Nat.mul_comm, Nat.mul_add_mod]
     exact Nat.mod_eq_of_lt (by omega)
    rw [hmod]
    have := (hz2 G).rel _ _ hj
    have hjz : j < z.cells.size := by omega
    simpa [hjz] using this)
  by_cases hl0 : len = 0
  ·subst hl0
   refine ⟨undef, w, .inl ?_, ?_⟩
   ·simp [execOp, ho, resolve, invoke, builtin, hxc, Builtin.clear_, run_underlying hu]
    rfl
   ·have hsame : (patch l off (List.replicate 0 zero)) = l := by simp [patch]
    rw [hsame] at w3 ⊢
    have ht := hs.tie.modObj (w1 := w) (ob' := .row l) hob g1 ⟨fun _ _ => rfl, .refl w⟩ hno hobj
    exact ht.out (.refl G) (.refl lam) hs.same (hundef G lam)
  ·have had := g5 (by omega)
   have hst := run_storeCells_at P r.b (off * r.s) ety (Builtin.zeroCells z.cells len).toList 0 cur w w1 (by simp [size_zeroCells, hzs]; simp at w2; omega) (fun u hu => by
    obtain ⟨k, hk⟩ := List.getElem?_of_mem hu
    have hkl : k < len * z.cells.size := by have := (List.getElem?_eq_some_iff.1 hk).1; simpa [size_zeroCells] using this
    rw [zeroCells_get hkl] at hk
    injection hk with hk
    subst hk
    have hz0 : 0 < z.cells.size := by
     rcases Nat.eq_zero_or_pos z.cells.size with h0 | h0
     ·rw [h0] at hkl; simp at hkl
     ·exact h0
    have hm := Nat.mod_lt k hz0
    exact (hz2 G).oneCells _ (by simp [hm]))
   simp only [Nat.add_zero] at hst
   have hbut := But.setRow w r.b _ w1 (row_size (p := off * r.s) (cy := (Builtin.zeroCells z.cells len).toList) (by simp [size_zeroCells, hzs]; simp at w2; omega))
   have ht := hs.tie.modObj hob g1 hbut hno w3
   refine ⟨undef, _, .inl ?_, ht.out (.refl G) (.refl lam) (hs.same.trans hbut.same) (hundef G lam)⟩
   simp only [execOp, ho, resolve, invoke, builtin, Builtin.clear_, List.map_toArray, List.map_cons, List.map_nil, hxc, had]
   have hne : ∀ n : Nat, n = len → n ≠ 0 := fun n hn => by omega
   obtain ⟨n, hn⟩ : ∃ n, len = n + 1 := ⟨len - 1, by omega⟩
   subst hn
   simp [run_underlying hu, hz1, hst]
   rfl
 ·rename_i tg hxv
  simp only [Option.some.injEq, Prod.mk.injEq] at he
  obtain ⟨rfl, rfl, rfl⟩ := he
  rw [hxv] at hrx
  obtain ⟨ad, cap, b, q, s', f, hxc, g2, g3, g4, g5, g6⟩ := R.lst_inv hrx
  refine ⟨undef, w, .inl ?_, hs.out (hundef G lam)⟩
  cases ad <;> simp [execOp, ho, resolve, invoke, builtin, hxc, Builtin.clear_, run_underlying hu] <;> rfl
 ·cases he
theorem ok_copy {t e : TypeId} {x y : Operand} {x' y' : Opd} {size : Nat} {ts : Array TypeId} {t2 : TypeId} (ho : o.op = .call { callee := .builtin .copy, args := #[x, y], argTypes := ts }) (hts : ts = #[t, t2])
  (hx : okOpd x x' = true) (hy : okOpd y y' = true) (hu : P.underlying t = some (.slice e)) (hsz : sizeB P e = some size) : OpOK P o (.copy size x' y') := by
 intro F w0 N G lam s a w hs call v loc h he
 subst hts
 have hrx := hs.ev hx
 have hry := hs.ev hy
 simp only [evalK] at he
 split at he
 ·rename_i id off len cap m hxv hym
  rw [hxv] at hrx
  obtain ⟨cap', ad, r, hxc, g1, g2, g3, g4, g5⟩ := R.row_inv hrx
  split at he
  case h_2 => cases he
  rename_i l hob
  split at he
  case isFalse => cases he
  rename_i hcond
  obtain ⟨hle, hlc, hokm, hsl⟩ := hcond
  simp only [Option.some.injEq, Prod.mk.injEq] at he
  obtain ⟨rfl, rfl, rfl⟩ := he
  have hyR : R G (s.ev y') (a.eval y) := hry.of (by revert hym; cases s.ev y' <;> simp [elemsOf, V.free])
  obtain ⟨ad', capy, cy, hyc, y2, y3, y4, y5, y6⟩ := elems_cells hs hyR hym hokm
  obtain ⟨r', hr', hobj⟩ := hs.inv.obj _ _ hob
  rw [g1] at hr'
  injection hr' with hr'
  subst hr'
  have hrs : r.s = size := by
   obtain ⟨ca, ety, k1, k2, k3, k4, k5⟩ := hobj
   cases l with
   | nil => cases hsl
   | cons e0 l0 => rw [← (k4 0 e0 rfl).1]; simpa [hasSize] using hsl
  subst hrs
  have hno : ∀ o, G.M r.b o = none := by obtain ⟨_, _, _, _, _, _, k5⟩ := hobj; exact k5
  have hml : (m.take len).length = min m.length len := by simp; omega
  have hcyl : (cy.take (min m.length len * r.s)).length = min m.length len * r.s := by
   have : min m.length len * r.s ≤ m.length * r.s := Nat.mul_le_mul_right _ (Nat.min_le_left _ _)
   simp [y3]
  obtain ⟨cur, ety, w1, w2, w3⟩ := row_write (p := off) (m := m.take len) (cy := cy.take (min m.length len * r.s)) hobj (by rw [hml]; omega) (by rw [hcyl, hml])
   (fun i el hi => by
    rw [List.getElem?_take] at hi
    split at hi
    ·exact y5 _ _ hi
    ·cases hi) (fun i el j u hi hj => by
    rw [List.getElem?_take] at hi
    split at hi
    ·rename_i hil
     obtain ⟨h1, u', h2, h3⟩ := y6 _ _ _ _ hi hj
     have him : i < m.length := (List.getElem?_eq_some_iff.1 hi).1
     have hjl : j < r.s := by rw [← y5 _ _ hi]; exact (List.getElem?_eq_some_iff.1 hj).1
     exact ⟨h1, u', by rw [List.getElem?_take, if_pos (index_lt (by omega) hjl)]; exact h2, h3⟩
    ·cases hi)
  have hf : (Builtin.firstCells r.s (min m.length len) (a.eval y)).run P w = .ok (cy.take (min m.length len * r.s)).toArray w := by
   rw [hyc]
   by_cases hm0 : m = []
   ·subst hm0
    have : cy = [] := List.eq_nil_of_length_eq_zero (by simpa using y3)
    subst this
    cases ad' <;> simp [Builtin.firstCells, loadCells, loadCellsFrom]
   ·obtain ⟨p', hp', hyl⟩ := y4 hm0
    subst hp'
    exact run_firstCells_some (P := P) w r.s (min m.length len) p' m.length capy _ hcyl (fun j u hu => by
     rw [List.getElem?_take] at hu
     split at hu
     ·exact hyl j u hu
     ·cases hu)
  have hone : ∀ u ∈ cy.take (min m.length len * r.s), u.oneCell' = true := fun u hu => cells_oneCell y3 y5 y6 u (List.mem_of_mem_take hu)
  have hmin : Nat.min m.length len = min m.length len := rfl
  have hgo : (goInt (min m.length len : Nat)) = Value.int .i64 (min m.length len : Nat) := rfl
  by_cases hn0 : min m.length len * r.s = 0
  ·-- nothing is stored
   rw [hn0] at hf w3 hcyl
   simp only [List.take_zero] at hf w3
   have hw : w.setRow r.b (cur.toList.take (off * r.s) ++ [] ++ cur.toList.drop (off * r.s + ([] : List Value).length)).toArray = w := by
    simp only [List.append_nil, List.length_nil, Nat.add_zero, List.take_append_drop, Array.toArray_toList]
    exact setRow_self w r.b cur ety (0, 0) w1
   rw [hw] at w3
   have ht := hs.tie.modObj (w1 := w) hob g1 ⟨fun _ _ => rfl, .refl w⟩ hno w3
   refine ⟨.int .i64 (min m.length len : Nat), w, .inl ?_, ht.out (.refl G) (.refl lam) hs.same (RT.to (.int _ _))⟩
   simp only [hyc] at hf
   simp [execOp, ho, resolve, invoke, builtin, hxc, hyc, Builtin.copy_, run_underlying hu, Builtin.lenOf, run_sizeB hsz, hmin, hf, storeCells, goInt]
  ·have hlen0 : len ≠ 0 := by rintro rfl; simp at hn0
   have had := g5 (by omega)
   have hst := run_storeCells_at P r.b (off * r.s) ety (cy.take (min m.length len * r.s)) 0 cur w w1 (by rw [hcyl]; rw [hml] at w2; omega) hone
   simp only [Nat.add_zero] at hst
   have hbut := But.setRow w r.b _ w1 (row_size (p := off * r.s) (cy := cy.take (min m.length len * r.s)) (by rw [hcyl]; rw [hml] at w2; omega))
   have ht := hs.tie.modObj hob g1 hbut hno w3
   refine ⟨.int .i64 (min m.length len : Nat), _, .inl ?_, ht.out (.refl G) (.refl lam) (hs.same.trans hbut.same) (RT.to (.int _ _))⟩
   simp only [hyc] at hf
   simp [execOp, ho, resolve, invoke, builtin, hxc, hyc, had, Builtin.copy_, run_underlying hu, Builtin.lenOf, run_sizeB hsz, hmin, hf, hst, goInt]
 ·cases he
theorem ok_mkslice {t e : TypeId} {x y : Operand} {x' y' : Opd} {ref : Bool} {size bytes : Nat} {zero : List V} (ho : o.op = .makeSlice t x y) (hx : okOpd x x' = true) (hy : okOpd y y' = true)
  (hT : SliceT P t e size bytes) (hz : okZero P e zero = true) : OpOK P o (.mkslice ref size bytes zero x' y') := by
 intro F w0 N G lam s a w hs call v loc h he
 have hrx := hs.ev hx
 have hry := hs.ev hy
 obtain ⟨z, hz1, hz2⟩ := okZero_spec hz
 obtain ⟨hu, ⟨i, z', hi, hzz, hsz, hby, hzs⟩, hpos, hbpos⟩ := hT
 simp only [evalK] at he
 split at he
 ·rename_i n c hn hc
  rw [hn] at hrx
  rw [hc] at hry
  have ex := hrx.int_
  have ey := hry.int_
  split at he
  case isFalse => cases he
  rename_i hcond
  obtain ⟨h0, hnc, hb⟩ := hcond
  have hzl : zero.length = size := by
   rw [(hz2 G).size]
   have h1 := hz1 w
   simp [zeroValue, typeInfo, hi, hzz] at h1
   rw [← h1, hzs]
  have hcb : c ≤ 140737488355328 := by
   have : c * 1 ≤ c * (bytes : Int) := Int.mul_le_mul_of_nonneg_left (by omega) (by omega)
   omega
  have hrun : (execOp a.eval o).run P w = .ok (.value (.slice (some ⟨w.heap.size, 0, none⟩) n.toNat c.toNat)) (w.alloc (.cells ((Array.range (c.toNat * zero.length)).map (z.cells[· % z.cells.size]!)) e)) := by
   have hmk := run_make (P := P) w t e i z' hu hi hzz .i64 .i64 n c h0 hnc (by rw [hby, Int.mul_comm]; omega) (by omega)
   have hzz' : z' = z := by
    have h1 := hz1 w
    simp [zeroValue, typeInfo, hi, hzz] at h1
    exact h1
   subst hzz'
   simp only [execOp, ho, ex, ey, Sem.run_bind, hmk, Result.andThen_ok, Sem.run_pure]
   rw [hsz, ← hzl]
   rfl
  have hLR := LR.replicate c.toNat (hz2 G)
  have hsame : Same w0 (w.alloc (.cells ((Array.range (c.toNat * zero.length)).map (z.cells[· % z.cells.size]!)) e)) := hs.same.trans (Ext.alloc w _).same
  cases ref
  ·simp only [Bool.false_eq_true, if_false, Option.some.injEq, Prod.mk.injEq] at he
   obtain ⟨rfl, rfl, rfl⟩ := he
   have hLR2 : LR G size (List.replicate n.toNat zero) ((Array.range (c.toNat * zero.length)).map (z.cells[· % z.cells.size]!)) := by
    rw [← hzl]
    refine ⟨by simp; exact Nat.mul_le_mul_right _ (by omega), fun i el hi => by rw [List.eq_of_mem_replicate (List.mem_of_getElem? hi)], fun i el j u hi hj => ?_⟩
    have hil : i < n.toNat := by have := (List.getElem?_eq_some_iff.1 hi).1; simpa using this
    have he := List.eq_of_mem_replicate (List.mem_of_getElem? hi)
    exact hLR.rel i el j u (by rw [List.getElem?_replicate, if_pos (by omega), he]) hj
   obtain ⟨G', e1, e2, e3⟩ := hs.tie.newTok (Ext.alloc w _) (heap_alloc_new w _) (c2 := c.toNat) (by simp; omega) (by simp [hzl]) hLR2
   simp only [List.length_replicate] at e2 e3
   exact ⟨_, _, .inl hrun, e2.out e1 (.refl lam) hsame (RT.to e3)⟩
  ·simp only [if_true, Option.some.injEq, Prod.mk.injEq] at he
   obtain ⟨rfl, rfl, rfl⟩ := he
   obtain ⟨G', e1, e2, e3⟩ := hs.tie.newRow (Ext.alloc w _) (heap_alloc_new w _) (c2 := c.toNat) (by simp) (by simp) hLR (n := n.toNat) (cap := c.toNat) (by omega) (Nat.le_refl _)
   exact ⟨_, _, .inl hrun, e2.out e1 (.refl lam) hsame (RT.to e3)⟩
 ·cases he
end
end Go.LS

/- Each operation of compact code does what the model's operation does: '==' and '!='. -/
namespace Go.LS
def intB (P : Program) (t : TypeId) : Bool :=
 match P.underlying t with
 | some (.int _) => true
 | _ => false
theorem intB_spec {P : Program} {t : TypeId} (h : intB P t = true) : ∃ k, P.underlying t = some (.int k) := by
 unfold intB at h
 split at h
 ·rename_i k hk; exact ⟨k, hk⟩
 ·cases h
theorem intB_plain {P : Program} {t : TypeId} (h : intB P t = true) : P.plainKey t = true := by
 obtain ⟨k, hk⟩ := intB_spec h
 simp [Program.plainKey, hk]
def flatFields (P : Program) : Nat → List Field → Bool
 | _, [] => true
 | j, f :: fs => f.offset == j && (f.name != "_") && intB P f.type && flatFields P (j + 1) fs
def chkEq (P : Program) (k : EqK) (t : TypeId) : Bool :=
 match k with
 | .bool => match P.underlying t with | some .bool => true | _ => false
 | .ptr => match P.underlying t with | some (.pointer _) => true | _ => false
 | .slice => match P.underlying t with | some (.slice _) => true | _ => false
 | .agg n => !P.eqGuardType P.depth t && (match P.underlying t with
  | some (.struct fs) => !P.stoodInHeld t && flatFields P 0 fs.toList && fs.size == n
  | some (.array n' e) => intB P e && sizeB P e == some 1 && n' == n
  | _ => false)

section
variable {P : Program} {G : Ghost} {w : World}
theorem eqCells_nil_left {m : List V} {r : Bool} (h : eqCells [] m = some r) : m = [] ∧ r = true := by
 cases m with
 | nil => simp [eqCells] at h; exact ⟨rfl, h⟩
 | cons x m => simp [eqCells] at h
theorem eqCells_cons {x : V} {l m : List V} {r : Bool} (h : eqCells (x :: l) m = some r) : ∃ k a b m' r', x = .int k a ∧ m = .int k b :: m' ∧ eqCells l m' = some r' ∧ r = (decide (a = b) && r') := by
 cases x with
 | int k a =>
  cases m with
  | nil => simp [eqCells] at h
  | cons y m =>
   cases y with
   | int k' b =>
    simp only [eqCells] at h
    split at h
    ·rename_i hk
     subst hk
     split at h
     ·rename_i r' hr
      injection h with h
      exact ⟨k, a, b, m, r', rfl, rfl, hr, h.symm⟩
     ·cases h
    ·cases h
   | _ => simp [eqCells] at h
 | _ => cases m <;> simp [eqCells] at h
theorem eqFields_run (d : Nat) {xs ys : Array Value} : ∀ {fs : List Field} {j : Nat} {l m : List V} {r : Bool}, flatFields P j fs = true → eqCells l m = some r → l.length = fs.length →
  (∀ (i : Nat) (x : V), l[i]? = some x → ∃ c, xs[j + i]? = some c ∧ R G x c) → (∀ (i : Nat) (x : V), m[i]? = some x → ∃ c, ys[j + i]? = some c ∧ R G x c) →
  (Op.eqFields (d + 1) xs ys fs).run P w = .ok r w
 | [], j, l, m, r, _, h, hlen, _, _ => by
  have : l = [] := by simpa using hlen
  subst this
  obtain ⟨_, rfl⟩ := eqCells_nil_left h
  simp [Op.eqFields]
 | f :: fs, j, [], m, r, _, _, hlen, _, _ => by simp at hlen
 | f :: fs, j, x :: l, m, r, hf, h, hlen, hx, hy => by
  simp only [flatFields, Bool.and_eq_true, beq_iff_eq, bne_iff_ne] at hf
  obtain ⟨⟨⟨ho, hn⟩, hi⟩, hf'⟩ := hf
  obtain ⟨k, a, b, m', r', rfl, rfl, hr, rfl⟩ := eqCells_cons h
  obtain ⟨c1, hc1, hR1⟩ := hx 0 _ rfl
  obtain ⟨c2, hc2, hR2⟩ := hy 0 _ rfl
  cases hR1
  cases hR2
  obtain ⟨k', hk'⟩ := intB_spec hi
  have p1 := run_part_plain (P := P) w (intB_plain hi) (off := f.offset) (by rw [ho]; simpa using hc1)
  have p2 := run_part_plain (P := P) w (intB_plain hi) (off := f.offset) (by rw [ho]; simpa using hc2)
  have p3 := run_equalIn_int (P := P) w d f.type k k' a b hk'
  have ih := eqFields_run d hf' hr (by simpa using hlen) (fun i x hxi => by have := hx (i + 1) x (by simpa using hxi); rwa [show j + (i + 1) = j + 1 + i by omega] at this)
   (fun i x hxi => by have := hy (i + 1) x (by simpa using hxi); rwa [show j + (i + 1) = j + 1 + i by omega] at this)
  simp only [Op.eqFields, hn, ne_eq, not_false_eq_true, if_true, Sem.run_bind, p1, p2, p3, Result.andThen_ok]
  by_cases hab : a = b
  ·subst hab; simpa using ih
  ·simp [hab]
theorem eqItems_run (d : Nat) {e : TypeId} (hi : intB P e = true) {xs ys : Array Value} : ∀ {n j : Nat} {l m : List V} {r : Bool}, eqCells l m = some r → l.length = n →
  (∀ (i : Nat) (x : V), l[i]? = some x → ∃ c, xs[j + i]? = some c ∧ R G x c) → (∀ (i : Nat) (x : V), m[i]? = some x → ∃ c, ys[j + i]? = some c ∧ R G x c) →
  (Op.eqItems (d + 1) e 1 xs ys (List.range' j n)).run P w = .ok r w
 | 0, j, l, m, r, h, hlen, _, _ => by
  have : l = [] := by simpa using hlen
  subst this
  obtain ⟨_, rfl⟩ := eqCells_nil_left h
  simp [Op.eqItems]
 | n + 1, j, [], m, r, _, hlen, _, _ => by simp at hlen
 | n + 1, j, x :: l, m, r, h, hlen, hx, hy => by
  obtain ⟨k, a, b, m', r', rfl, rfl, hr, rfl⟩ := eqCells_cons h
  obtain ⟨c1, hc1, hR1⟩ := hx 0 _ rfl
  obtain ⟨c2, hc2, hR2⟩ := hy 0 _ rfl
  cases hR1
  cases hR2
  obtain ⟨k', hk'⟩ := intB_spec hi
  have p1 := run_part_plain (P := P) w (intB_plain hi) (off := j * 1) (by simpa using hc1)
  have p2 := run_part_plain (P := P) w (intB_plain hi) (off := j * 1) (by simpa using hc2)
  have p3 := run_equalIn_int (P := P) w d e k k' a b hk'
  have ih := eqItems_run d hi (j := j + 1) hr (by simpa using hlen) (fun i x hxi => by have := hx (i + 1) x (by simpa using hxi); rwa [show j + (i + 1) = j + 1 + i by omega] at this)
   (fun i x hxi => by have := hy (i + 1) x (by simpa using hxi); rwa [show j + (i + 1) = j + 1 + i by omega] at this)
  simp only [List.range'_succ, Op.eqItems, Sem.run_bind, p1, p2, p3, Result.andThen_ok]
  by_cases hab : a = b
  ·subst hab; simpa using ih
  ·simp [hab]
theorem agg_equal {t : TypeId} {n : Nat} (hc : chkEq P (.agg n) t = true) {l m : List V} {xs ys : Array Value} (hl : l.length = n) (hx : CR G l xs) (hy : CR G m ys) {r : Bool} (h : eqCells l m = some r) :
  (Op.equal t (.agg xs) (.agg ys)).run P w = .ok r w := by
 simp only [chkEq, Bool.and_eq_true, Bool.not_eq_true'] at hc
 obtain ⟨_, hc⟩ := hc
 have hget : ∀ {l : List V} {xs : Array Value}, CR G l xs → ∀ (i : Nat) (x : V), l[i]? = some x → ∃ c, xs[0 + i]? = some c ∧ R G x c := fun {l xs} hx i x hi => by
  obtain ⟨u, h1, h2, _⟩ := hx.getElem hi
  exact ⟨u, by simpa using h1, h2⟩
 have e0 : Op.maxDepth = 9999 + 1 := rfl
 unfold Op.equal
 rw [e0]
 split at hc
 ·rename_i fs hu
  simp only [Bool.and_eq_true, Bool.not_eq_true', beq_iff_eq] at hc
  obtain ⟨⟨hst, hf⟩, hn⟩ := hc
  have hfo : P.fieldsOf t = fs := by simp [Program.fieldsOf, hu]
  rw [run_equalIn_struct w 9999 t xs ys (by rw [hfo]; exact hu) hst, hfo]
  exact eqFields_run 9998 hf h (by simp [hl, hn]) (hget hx) (hget hy)
 ·rename_i n' e hu
  simp only [Bool.and_eq_true, beq_iff_eq] at hc
  obtain ⟨⟨hi, hs⟩, hn⟩ := hc
  obtain ⟨i, hinfo⟩ : ∃ i, P.info? e = some i := by
   unfold sizeB at hs
   cases hi2 : P.info? e with
   | none => rw [hi2] at hs; cases hs
   | some i => exact ⟨i, rfl⟩
  have hcells : P.cellsOf e = 1 := by
   unfold sizeB at hs
   rw [hinfo] at hs
   simp only [Option.map_some, Option.some.injEq] at hs
   simp [Program.cellsOf, hinfo, hs]
  rw [run_equalIn_array w 9999 xs ys hu hinfo, hcells, List.range_eq_range']
  exact eqItems_run 9998 hi h (by rw [hl, hn]) (hget hx) (hget hy)
 ·cases hc
theorem binOp_equal {op : BinOp} {t : TypeId} {x y : Value} {neg : Bool} (hop : op = if neg then .neq else .eql) (h1 : ∀ k a, x ≠ .int k a) (h2 : ∀ k a, x ≠ .float k a) (h3 : ∀ k a b, x ≠ .complex k a b) (h4 : ∀ a, x ≠ .string a) {r : Bool}
  (hr : (Op.equal t x y).run P w = .ok r w) : (binOp op t x y).run P w = .ok (.bool (if neg then !r else r)) w := by
 cases x <;> first | exact absurd rfl (h1 _ _) | exact absurd rfl (h2 _ _) | exact absurd rfl (h3 _ _ _) | exact absurd rfl (h4 _) | skip
 all_goals (cases neg <;> simp only [Bool.false_eq_true, if_false, if_true] at hop <;> subst hop <;> simp [binOp, hr])
theorem isNil_spec {u : V} (h : u.isNil = true) : u = .nilp := by
 unfold V.isNil at h
 split at h
 ·rfl
 ·cases h
theorem eqV_ptr {u v : V} {b : Bool} (h : eqV .ptr u v = some b) : (u = .nilp ∧ v = .nilp ∧ b = true) ∨ (u.isPtr = true ∧ v = .nilp ∧ b = false) ∨ (u = .nilp ∧ v.isPtr = true ∧ b = false) := by
 simp only [eqV, eqPtr] at h
 split at h
 ·rename_i hv
  split at h
  ·rename_i hu; injection h with h; exact .inl ⟨isNil_spec hu, isNil_spec hv, h.symm⟩
  ·split at h
   ·rename_i hu; injection h with h; exact .inr (.inl ⟨hu, isNil_spec hv, h.symm⟩)
   ·cases h
 ·split at h
  ·rename_i hu
   split at h
   ·rename_i hp; injection h with h; exact .inr (.inr ⟨isNil_spec hu, hp, h.symm⟩)
   ·cases h
  ·cases h
theorem eqV_slice {u v : V} {b : Bool} (h : eqV .slice u v = some b) : v = .lst .nil [] ∧ ((∃ l, u = .lst .nil l ∧ b = true) ∨ (∃ t l, u = .lst (.own t) l ∧ b = false) ∨ (∃ t l, u = .lst t l ∧ l ≠ [] ∧ b = false) ∨ (∃ id off len cap, u = .row id off len cap ∧ b = false)) := by
 simp only [eqV, eqSlice] at h
 split at h
 ·refine ⟨rfl, ?_⟩
  split at h
  ·injection h with h; exact .inl ⟨_, rfl, h.symm⟩
  ·injection h with h; exact .inr (.inl ⟨_, _, rfl, h.symm⟩)
  ·injection h with h; exact .inr (.inr (.inl ⟨_, _, rfl, by simp, h.symm⟩))
  ·injection h with h; exact .inr (.inr (.inr ⟨_, _, _, _, rfl, h.symm⟩))
  ·cases h
 ·cases h
theorem run_ptr_nil (d : Nat) {t e : TypeId} (c : Option Addr) (hu : P.underlying t = some (.pointer e)) : (Op.equalIn (d + 1) t (.pointer c) (.pointer none)).run P w = .ok c.isNone w := by
 cases c <;> simp [Op.equalIn, run_underlying hu]
theorem run_nil_ptr (d : Nat) {t e : TypeId} (c : Option Addr) (hu : P.underlying t = some (.pointer e)) : (Op.equalIn (d + 1) t (.pointer none) (.pointer c)).run P w = .ok c.isNone w := by
 cases c <;> simp [Op.equalIn, run_underlying hu]
theorem ok_eq {o : Oper} {op : BinOp} {neg : Bool} {t u : TypeId} {k : EqK} {x y : Operand} {x' y' : Opd} (ho : o.op = .binOp op t x y u) (hop : op = if neg then .neq else .eql) (hx : okOpd x x' = true) (hy : okOpd y y' = true) (hc : chkEq P k t = true) : OpOK P o (.eq neg k x' y') := by
 intro F w0 N G lam s a w hs call v loc h he
 have hrx := hs.ev hx
 have hry := hs.ev hy
 simp only [evalK] at he
 split at he
 ·rename_i b hb
  simp only [Option.some.injEq, Prod.mk.injEq] at he
  obtain ⟨rfl, rfl, rfl⟩ := he
  have fin : (eqGuard op t x y (a.eval x) (a.eval y)).run P w = .ok () w → (binOp op t (a.eval x) (a.eval y)).run P w = .ok (.bool (if neg then !b else b)) w →
    ∃ cv w', Runs P a o w cv w' ∧ Out F w0 G lam (.bool (if neg then !b else b)) s.loc s.h cv w' := fun hg hr =>
   ⟨_, w, .inl (by simp [execOp, ho, hg, hr]), hs.out (RT.to (.bool _))⟩
  have guard : ∀ c d : Value, (∀ l, c ≠ .agg l) → c ≠ .nilIface → (eqGuard op t x y c d).run P w = .ok () w := fun c d h1 h2 => by
   cases neg <;> simp only [Bool.false_eq_true, if_false, if_true] at hop <;> subst hop <;> cases c <;> first | exact absurd rfl (h1 _) | exact absurd rfl h2 | simp [eqGuard]
  cases k with
  | bool =>
   simp only [eqV, eqBool] at hb
   split at hb
   case h_2 => cases hb
   rename_i a1 b1 hsx hsy
   rw [hsx] at hrx
   rw [hsy] at hry
   injection hb with hb
   subst hb
   have h1 := hrx.bool_
   have h2 := hry.bool_
   rw [h1, h2] at fin
   simp only [chkEq] at hc
   split at hc
   ·rename_i hu
    exact fin (guard _ _ (by simp) (by simp)) (binOp_equal hop (by simp) (by simp) (by simp) (by simp) (run_equalIn_bool w 9999 t _ _ hu))
   ·cases hc
  | ptr =>
   simp only [chkEq] at hc
   split at hc
   ·rename_i el hu
    have hptr : ∀ {z : V} {c : Value}, z.isPtr = true → RT G lam z c → ∃ ad, c = .pointer (some ad) := fun {z c} hz hr => by
     cases z with
     | obj id off => have hr : R G _ _ := hr; cases hr; exact ⟨_, rfl⟩
     | elt id i off => have hr : R G _ _ := hr; cases hr; exact ⟨_, rfl⟩
     | imm cells off => have hr : R G _ _ := hr; cases hr; exact ⟨_, rfl⟩
     | _ => cases hz
    have fin2 : ∀ (c d : Option Addr), a.eval x = .pointer c → a.eval y = .pointer d → (Op.equal t (.pointer c) (.pointer d)).run P w = .ok b w →
      ∃ cv w', Runs P a o w cv w' ∧ Out F w0 G lam (.bool (if neg then !b else b)) s.loc s.h cv w' := fun c d h1 h2 h3 => by
     rw [h1, h2] at fin
     exact fin (guard _ _ (by simp) (by simp)) (binOp_equal hop (by simp) (by simp) (by simp) (by simp) h3)
    rcases eqV_ptr hb with ⟨h1, h2, rfl⟩ | ⟨h1, h2, rfl⟩ | ⟨h1, h2, rfl⟩
    ·rw [h1] at hrx; rw [h2] at hry
     exact fin2 none none hrx.nil_ hry.nil_ (run_ptr_nil 9999 none hu)
    ·rw [h2] at hry
     obtain ⟨ad, had⟩ := hptr h1 hrx
     exact fin2 (some ad) none had hry.nil_ (run_ptr_nil 9999 (some ad) hu)
    ·rw [h1] at hrx
     obtain ⟨ad, had⟩ := hptr h2 hry
     exact fin2 none (some ad) hrx.nil_ had (run_nil_ptr 9999 (some ad) hu)
   ·cases hc
  | slice =>
   simp only [chkEq] at hc
   split at hc
   ·rename_i el hu
    obtain ⟨hv, hcase⟩ := eqV_slice hb
    rw [hv] at hry
    have hy0 : a.eval y = .slice none 0 0 := by
     obtain ⟨a2, cap, b2, o2, s2, f2, e1, e2, e3, e4, _⟩ := R.lst_inv (show R G _ _ from hry)
     obtain ⟨e5, e6⟩ := e4
     rw [e1, e5, e6]; rfl
    have fin2 : ∀ (c : Option Addr) (l cap : Nat), a.eval x = .slice c l cap → c.isNone = b →
      ∃ cv w', Runs P a o w cv w' ∧ Out F w0 G lam (.bool (if neg then !b else b)) s.loc s.h cv w' := fun c l cap h1 h2 => by
     rw [h1, hy0] at fin
     exact fin (guard _ _ (by simp) (by simp)) (binOp_equal hop (by simp) (by simp) (by simp) (by simp) (by rw [← h2]; exact run_equal_slice_nil w t el c l cap hu))
    rcases hcase with ⟨l, h1, rfl⟩ | ⟨tk, l, h1, rfl⟩ | ⟨tk, l, h1, hne, rfl⟩ | ⟨id, off, len, cap, h1, rfl⟩
    ·rw [h1] at hrx
     obtain ⟨a2, cap, b2, o2, s2, f2, e1, e2, e3, e4, _⟩ := R.lst_inv (show R G _ _ from hrx)
     exact fin2 _ _ _ e1 (by rw [e4.1]; rfl)
    ·rw [h1] at hrx
     obtain ⟨a2, cap, b2, o2, s2, f2, e1, e2, e3, e4, _⟩ := R.lst_inv (show R G _ _ from hrx)
     exact fin2 _ _ _ e1 (by rw [e4.1]; rfl)
    ·rw [h1] at hrx
     obtain ⟨a2, cap, b2, o2, s2, f2, e1, e2, e3, e4, _⟩ := R.lst_inv (show R G _ _ from hrx)
     exact fin2 _ _ _ e1 (by rw [e3 hne]; rfl)
    ·rw [h1] at hrx
     obtain ⟨cap', ad, r, e1, _⟩ := R.row_inv (show R G _ _ from hrx)
     exact fin2 _ _ _ e1 rfl
   ·cases hc
  | agg n =>
   simp only [eqV, eqAgg] at hb
   split at hb
   case h_2 => cases hb
   rename_i a1 b1 hsx hsy
   rw [hsx] at hrx
   rw [hsy] at hry
   split at hb
   ·rename_i hl
    obtain ⟨cx, h1, hcx⟩ := R.agg_inv (show R G _ _ from hrx)
    obtain ⟨cy, h2, hcy⟩ := R.agg_inv (show R G _ _ from hry)
    rw [h1, h2] at fin
    refine fin ?_ (binOp_equal hop (by simp) (by simp) (by simp) (by simp) (agg_equal hc hl hcx hcy hb))
    have hg : P.eqGuardType P.depth t = false := by
     simp only [chkEq, Bool.and_eq_true, Bool.not_eq_true'] at hc
     exact hc.1
    exact run_eqGuard_agg w op t x y cx cy hg
   ·cases hb
 ·cases he

end
end Go.LS

/- The check of an operation of compact code against the program's operation. -/
namespace Go.LS
def sliceE (P : Program) (t : TypeId) : Option TypeId :=
 match P.underlying t with
 | some (.slice e) => some e
 | _ => none
theorem sliceE_spec {P : Program} {t e : TypeId} (h : sliceE P t = some e) : P.underlying t = some (.slice e) := by
 unfold sliceE at h
 split at h
 ·rename_i e' he; injection h with h; subst h; exact he
 ·cases h
def arrayE (P : Program) (t : TypeId) : Option (Nat × TypeId) :=
 match P.underlying t with
 | some (.array n e) => some (n, e)
 | _ => none
theorem arrayE_spec {P : Program} {t e : TypeId} {n : Nat} (h : arrayE P t = some (n, e)) : P.underlying t = some (.array n e) := by
 unfold arrayE at h
 split at h
 ·rename_i n' e' he; injection h with h; injection h with h1 h2; subst h1 h2; exact he
 ·cases h
def mapE (P : Program) (t : TypeId) : Option (IntKind × TypeId) :=
 match P.underlying t with
 | some (.map kt et) => match P.underlying kt with
  | some (.int k) => some (k, et)
  | _ => none
 | _ => none
theorem mapE_spec {P : Program} {t et : TypeId} {k : IntKind} (h : mapE P t = some (k, et)) : ∃ kt, P.underlying t = some (.map kt et) ∧ P.underlying kt = some (.int k) := by
 unfold mapE at h
 split at h
 ·rename_i kt et' he
  split at h
  ·rename_i k' hk; injection h with h; injection h with h1 h2; subst h1 h2; exact ⟨kt, he, hk⟩
  ·cases h
 ·cases h
def sliceTB (P : Program) (t : TypeId) (size bytes : Nat) : Bool :=
 match sliceE P t with
 | some e => match P.info? e with
  | some i => match i.zero with
   | some z => i.size == size && i.bytes == bytes && z.cells.size == size && decide (0 < size) && decide (0 < bytes)
   | none => false
  | none => false
 | none => false
theorem sliceTB_spec {P : Program} {t : TypeId} {size bytes : Nat} (h : sliceTB P t size bytes = true) : ∃ e, sliceE P t = some e ∧ SliceT P t e size bytes := by
 unfold sliceTB at h
 split at h
 ·rename_i e he
  split at h
  ·rename_i i hi
   split at h
   ·rename_i z hz
    simp only [Bool.and_eq_true, beq_iff_eq, decide_eq_true_eq] at h
    obtain ⟨⟨⟨⟨h1, h2⟩, h3⟩, h4⟩, h5⟩ := h
    exact ⟨e, he, ⟨sliceE_spec he, ⟨i, z, hi, hz, h1, h2, h3⟩, h4, h5⟩⟩
   ·cases h
  ·cases h
 ·cases h
def zeroIs (P : Program) (t : TypeId) (p : Value → Bool) : Bool :=
 match (P.info? t).bind (·.zero) with
 | some z => p z
 | none => false
theorem zeroIs_spec {P : Program} {t : TypeId} {p : Value → Bool} (h : zeroIs P t p = true) : ∃ z, (P.info? t).bind (·.zero) = some z ∧ p z = true := by
 unfold zeroIs at h
 split at h
 ·rename_i z hz; exact ⟨z, hz, h⟩
 ·cases h
def isAggV : Value → Bool
 | .agg _ => true
 | _ => false
def structB (P : Program) (t : TypeId) : Option (Array Field) :=
 match P.underlying t with
 | some (.struct fs) => some fs
 | _ => none
theorem structB_spec {P : Program} {t : TypeId} {fs : Array Field} (h : structB P t = some fs) : P.underlying t = some (.struct fs) := by
 unfold structB at h
 split at h
 ·rename_i fs' he; injection h with h; subst h; exact he
 ·cases h
def builtinOf : Op → Option (Builtin × List Operand × List TypeId)
 | .call ⟨.builtin b, args, ts⟩ => some (b, args.toList, ts.toList)
 | _ => none
theorem builtinOf_spec {o : Op} {b : Builtin} {xs : List Operand} {ts : List TypeId} (h : builtinOf o = some (b, xs, ts)) : o = .call { callee := .builtin b, args := xs.toArray, argTypes := ts.toArray } := by
 unfold builtinOf at h
 split at h
 ·injection h with h; injection h with h1 h2; injection h2 with h2 h3; subst h1 h2 h3; rfl
 ·cases h
def chkBuiltin (P : Program) (b : Builtin) (xs : List Operand) (ts : List TypeId) (k : AK) : Bool :=
 match k with
 | .mov (.c (.int .i64 n)) => match b, ts with
  | .len, [t] => match arrayE P t with
   | some (m, _) => xs.length == 1 && n == (m : Int)
   | none => false
  | _, _ => false
 | .len x' => match b, xs, ts with
  | .len, [x], [t] => okOpd x x' && (sliceE P t).isSome
  | _, _, _ => false
 | .append _ size bytes x' y' => match b, xs, ts with
  | .append, [x, y], [t, t'] => t == t' && okOpd x x' && okOpd y y' && sliceTB P t size bytes
  | _, _, _ => false
 | .copy size x' y' => match b, xs, ts with
  | .copy, [x, y], [t, _] => okOpd x x' && okOpd y y' && (match sliceE P t with | some e => sizeB P e == some size | none => false)
  | _, _, _ => false
 | .clear _ zero x' => match b, xs, ts with
  | .clear, [x], [t] => okOpd x x' && (match sliceE P t with | some e => okZero P e zero | none => false)
  | _, _, _ => false
 | .mapdel k m' x' => match b, xs, ts with
  | .delete, [m, x], [t, _] => okOpd m m' && okOpd x x' && (match mapE P t with | some (k', _) => k' == k | none => false)
  | _, _, _ => false
 | .minmax isMax x' xs' => match b, xs with
  | .max, x :: xs => isMax && okOpd x x' && okOpds xs xs'
  | .min, x :: xs => !isMax && okOpd x x' && okOpds xs xs'
  | _, _ => false
 | _ => false
def chkOp (P : Program) (o : Op) (k : AK) : Bool :=
 match builtinOf o with
 | some (b, xs, ts) => chkBuiltin P b xs ts k
 | none =>
 match k with
 | .mov y => match o with
  | .move x => okOpd x y
  | .assign x => okOpd x y
  | _ => false
 | .pick c' x' y' => match o with
  | .pick c x y => okOpd c c' && okOpd x x' && okOpd y y'
  | _ => false
 | .alloc _ zero => match o with
  | .alloc t => okZero P t zero
  | _ => false
 | .box _ _ x' => match o with
  | .box _ x => okOpd x x'
  | _ => false
 | .build zero parts' => match o with
  | .build t parts => okZero P t zero && (match structB P t with
   | some fs => (fs.toList.all fun f => (sizeB P f.type).isSome) && okParts (placeB P fs) parts.toList parts'
   | none => match arrayE P t with
    | some (_, e) => match sizeB P e with
     | some size => okParts (fun i => some (i * size, size)) parts.toList parts'
     | none => false
    | none => false)
  | _ => false
 | .bslice _ n size zero parts' => match o with
  | .buildSlice t n' parts => n == n' && (match sliceE P t with
   | some e => sizeB P e == some size && okZero P e zero && zero.length == size && decide (n * size ≤ 16777216) && okPartsL parts.toList parts'
   | none => false)
  | _ => false
 | .load agg size p' => match o with
  | .load t p => okOpd p p' && aggB P t == some agg && (!agg || sizeB P t == some size)
  | _ => false
 | .store size p' x' => match o with
  | .store t p x => okOpd p p' && okOpd x x' && sizeB P t == some size
  | _ => false
 | .nilchk x' => match o with
  | .nilCheck x => okOpd x x'
  | _ => false
 | .bin op x' y' => match o with
  | .binOp op' _ x y _ => op == op' && okOpd x x' && okOpd y y'
  | _ => false
 | .eq neg k x' y' => match o with
  | .binOp op t x y _ => op == (if neg then .neq else .eql) && okOpd x x' && okOpd y y' && chkEq P k t
  | _ => false
 | .un op x' => match o with
  | .unOp op' _ x => op == op' && okOpd x x'
  | _ => false
 | .conv k x' => match o with
  | .convert src dst x => okOpd x x' && (P.underlying src).isSome && (match P.underlying dst with | some (.int k') => k' == k | _ => false)
  | _ => false
 | .mkfn f first' caps' => match o with
  | .makeFunc (.func f') first caps => f == f' && okOpds first.toList first' && okOpds caps.toList caps'
  | _ => false
 | .mkmap _ => match o with
  | .makeMap _ none => true
  | _ => false
 | .mkslice _ size bytes zero x' y' => match o with
  | .makeSlice t x y => okOpd x x' && okOpd y y' && sliceTB P t size bytes && (match sliceE P t with | some e => okZero P e zero | none => false)
  | _ => false
 | .slice size x' lo' hi' mx' => match o with
  | .slice t x lo hi mx => okOpd x x' && okOO lo lo' && okOO hi hi' && okOO mx mx' && (!mx.isSome || hi.isSome) && (match sliceE P t with | some e => sizeB P e == some size | none => false)
  | _ => false
 | .off n p' => match o with
  | .fieldAddr t p i => okOpd p p' && (match fieldB P t i with | some (n', sz, _) => n == n' && sz != 0 | none => false)
  | _ => false
 | .idxS size p' x' => match o with
  | .indexAddr t p x => okOpd p p' && okOpd x x' && (match sliceE P t with | some e => sizeB P e == some size | none => false)
  | _ => false
 | .idxA n size p' x' => match o with
  | .indexAddr t p x => okOpd p p' && okOpd x x' && (match arrayE P t with | some (n', e) => n == n' && sizeB P e == some size | none => false)
  | _ => false
 | .fieldV agg off size x' => match o with
  | .field t x i => okOpd x x' && fieldB P t i == some (off, size, agg)
  | _ => false
 | .idxV n size agg x' y' => match o with
  | .index t x y => okOpd x x' && okOpd y y' && (match arrayE P t with | some (n', e) => n == n' && aggB P e == some agg && sizeB P e == some size | none => false)
  | _ => false
 | .idxStr x' y' => match o with
  | .index t x y => okOpd x x' && okOpd y y' && (match P.underlying t with | some .string => true | _ => false)
  | _ => false
 | .lookup k zero ok m' x' => match o with
  | .lookup t m x ok' => ok == ok' && okOpd m m' && okOpd x x' && (match mapE P t with
   | some (k', et) => k' == k && (match zero with
    | .agg cells => aggB P et == some true && okZero P et cells && zeroIs P et isAggV
    | z => (match aggB P et with | some true => false | _ => true) && okZero P et [z] && zeroIs P et (fun c => okVal c z))
   | none => false)
  | _ => false
 | .mapset k m' x' y' => match o with
  | .mapUpdate t m x y => okOpd m m' && okOpd x x' && okOpd y y' && (match mapE P t with | some (k', _) => k' == k | none => false)
  | .insert t m x y => okOpd m m' && okOpd x x' && okOpd y y' && (match mapE P t with | some (k', _) => k' == k | none => false)
  | _ => false
 | .ext x' i => match o with
  | .extract x i' => okOpd x x' && i == i'
  | _ => false
 | _ => false
theorem ok_lenA {P : Program} {o : Oper} {t e : TypeId} {n : Nat} {x : Operand} {ts : Array TypeId} (ho : o.op = .call { callee := .builtin .len, args := #[x], argTypes := ts }) (hts : ts = #[t])
  (hu : P.underlying t = some (.array n e)) : OpOK P o (.mov (.c (.int .i64 n))) := by
 intro F w0 N G lam s a w hs call v loc h he
 subst hts
 simp only [evalK, St.ev, Option.some.injEq, Prod.mk.injEq] at he
 obtain ⟨rfl, rfl, rfl⟩ := he
 refine ⟨.int .i64 n, w, .inl ?_, hs.out (RT.to (.int _ _))⟩
 simp [execOp, ho, resolve, invoke, builtin, Builtin.len_, run_underlying hu, goInt]
theorem chkBuiltin_ok {P : Program} {o : Oper} {b : Builtin} {xs : List Operand} {ts : List TypeId} {k : AK} (ho : o.op = .call { callee := .builtin b, args := xs.toArray, argTypes := ts.toArray }) (h : chkBuiltin P b xs ts k = true) : OpOK P o k := by
 unfold chkBuiltin at h
 split at h
 ·split at h
  ·rename_i n _ _ t
   split at h
   ·rename_i m e hm
    simp only [Bool.and_eq_true, beq_iff_eq] at h
    obtain ⟨h1, rfl⟩ := h
    match xs, h1 with
    | [x], _ => exact ok_lenA ho rfl (arrayE_spec hm)
   ·cases h
  ·cases h
 ·split at h
  ·simp only [Bool.and_eq_true, Option.isSome_iff_exists] at h
   obtain ⟨h1, e, he⟩ := h
   exact ok_len ho rfl h1 (sliceE_spec he)
  ·cases h
 ·split at h
  ·simp only [Bool.and_eq_true, beq_iff_eq] at h
   obtain ⟨⟨⟨rfl, h1⟩, h2⟩, h3⟩ := h
   obtain ⟨e, _, hT⟩ := sliceTB_spec h3
   exact ok_append ho rfl h1 h2 hT
  ·cases h
 ·split at h
  ·simp only [Bool.and_eq_true] at h
   obtain ⟨⟨h1, h2⟩, h3⟩ := h
   split at h3
   ·rename_i e he
    simp only [beq_iff_eq] at h3
    exact ok_copy ho rfl h1 h2 (sliceE_spec he) h3
   ·cases h3
  ·cases h
 ·split at h
  ·simp only [Bool.and_eq_true] at h
   obtain ⟨h1, h3⟩ := h
   split at h3
   ·rename_i e he
    exact ok_clear ho rfl h1 (sliceE_spec he) h3
   ·cases h3
  ·cases h
 ·split at h
  ·simp only [Bool.and_eq_true] at h
   obtain ⟨⟨h1, h2⟩, h3⟩ := h
   split at h3
   ·rename_i k' et hm
    simp only [beq_iff_eq] at h3
    subst h3
    obtain ⟨kt, hu, hk⟩ := mapE_spec hm
    exact ok_mapdel ho rfl h1 h2 hu hk
   ·cases h3
  ·cases h
 ·split at h
  ·simp only [Bool.and_eq_true] at h
   obtain ⟨⟨rfl, h1⟩, h2⟩ := h
   exact ok_minmax (by simpa using ho) h1 h2
  ·simp only [Bool.and_eq_true, Bool.not_eq_true'] at h
   obtain ⟨⟨rfl, h1⟩, h2⟩ := h
   exact ok_minmax (by simpa using ho) h1 h2
  ·cases h
 ·cases h
theorem chkOp_ok {P : Program} {o : Oper} {k : AK} (h : chkOp P o.op k = true) : OpOK P o k := by
 unfold chkOp at h
 split at h
 ·rename_i b xs ts hb
  exact chkBuiltin_ok (builtinOf_spec hb) h
 ·split at h
  ·split at h
   ·exact ok_mov (.inl ‹_›) h
   ·exact ok_mov (.inr ‹_›) h
   ·cases h
  ·split at h
   ·simp only [Bool.and_eq_true] at h
    exact ok_pick ‹_› h.1.1 h.1.2 h.2
   ·cases h
  ·split at h
   ·exact ok_alloc ‹_› h
   ·cases h
  ·split at h
   ·exact ok_box ‹_› h
   ·cases h
  ·split at h
   ·simp only [Bool.and_eq_true] at h
    obtain ⟨h1, h2⟩ := h
    split at h2
    ·rename_i fs hf
     simp only [Bool.and_eq_true] at h2
     exact ok_build ‹_› h1 (structB_spec hf) h2.1 h2.2
    ·split at h2
     ·rename_i n e hn
      split at h2
      ·rename_i size hs
       exact ok_buildA ‹_› h1 (arrayE_spec hn) hs h2
      ·cases h2
     ·cases h2
   ·cases h
  ·split at h
   ·simp only [Bool.and_eq_true, beq_iff_eq] at h
    obtain ⟨rfl, h2⟩ := h
    split at h2
    ·rename_i e he
     simp only [Bool.and_eq_true, beq_iff_eq, decide_eq_true_eq] at h2
     obtain ⟨⟨⟨⟨h1, h2⟩, h3⟩, h4⟩, h6⟩ := h2
     exact ok_bslice ‹_› (sliceE_spec he) h1 h2 h3 h4 h6
    ·cases h2
   ·cases h
  ·split at h
   ·simp only [Bool.and_eq_true, beq_iff_eq] at h
    obtain ⟨⟨h1, h2⟩, h3⟩ := h
    exact ok_load ‹_› h1 h2 (fun ha => by subst ha; simpa using h3)
   ·cases h
  ·split at h
   ·simp only [Bool.and_eq_true, beq_iff_eq] at h
    exact ok_store ‹_› h.1.1 h.1.2 h.2
   ·cases h
  ·split at h
   ·exact ok_nilchk ‹_› h
   ·cases h
  ·split at h
   ·simp only [Bool.and_eq_true, beq_iff_eq] at h
    obtain ⟨⟨rfl, h1⟩, h2⟩ := h
    exact ok_bin ‹_› h1 h2
   ·cases h
  ·split at h
   ·simp only [Bool.and_eq_true, beq_iff_eq] at h
    obtain ⟨⟨⟨h0, h1⟩, h2⟩, h3⟩ := h
    exact ok_eq ‹_› h0 h1 h2 h3
   ·cases h
  ·split at h
   ·simp only [Bool.and_eq_true, beq_iff_eq] at h
    obtain ⟨rfl, h1⟩ := h
    exact ok_un ‹_› h1
   ·cases h
  ·split at h
   ·simp only [Bool.and_eq_true] at h
    obtain ⟨⟨h1, h2⟩, h3⟩ := h
    split at h3
    ·rename_i k' hk
     simp only [beq_iff_eq] at h3
     subst h3
     exact ok_conv ‹_› h1 h2 hk
    ·cases h3
   ·cases h
  ·split at h
   ·simp only [Bool.and_eq_true, beq_iff_eq] at h
    obtain ⟨⟨rfl, h1⟩, h2⟩ := h
    exact ok_mkfn ‹_› h1 h2
   ·cases h
  ·split at h
   ·exact ok_mkmap ‹_›
   ·cases h
  ·split at h
   ·simp only [Bool.and_eq_true] at h
    obtain ⟨⟨⟨h1, h2⟩, h3⟩, h4⟩ := h
    obtain ⟨e, he, hT⟩ := sliceTB_spec h3
    rw [he] at h4
    exact ok_mkslice ‹_› h1 h2 hT h4
   ·cases h
  ·split at h
   ·simp only [Bool.and_eq_true] at h
    obtain ⟨⟨⟨⟨⟨h1, h2⟩, h3⟩, h4⟩, h5⟩, h6⟩ := h
    split at h6
    ·rename_i e he
     simp only [beq_iff_eq] at h6
     exact ok_slice ‹_› h1 h2 h3 h4 (fun hm => by simpa [hm] using h5) (sliceE_spec he) h6
    ·cases h6
   ·cases h
  ·split at h
   ·simp only [Bool.and_eq_true] at h
    obtain ⟨h1, h2⟩ := h
    split at h2
    ·rename_i n' sz b hf
     simp only [Bool.and_eq_true, beq_iff_eq, bne_iff_ne] at h2
     obtain ⟨rfl, h3⟩ := h2
     exact ok_off ‹_› h1 ⟨sz, b, hf, h3⟩
    ·cases h2
   ·cases h
  ·split at h
   ·simp only [Bool.and_eq_true] at h
    obtain ⟨⟨h1, h2⟩, h3⟩ := h
    split at h3
    ·rename_i e he
     simp only [beq_iff_eq] at h3
     exact ok_idxS ‹_› h1 h2 (sliceE_spec he) h3
    ·cases h3
   ·cases h
  ·split at h
   ·simp only [Bool.and_eq_true] at h
    obtain ⟨⟨h1, h2⟩, h3⟩ := h
    split at h3
    ·rename_i n' e he
     simp only [Bool.and_eq_true, beq_iff_eq] at h3
     obtain ⟨rfl, h4⟩ := h3
     exact ok_idxA ‹_› h1 h2 (arrayE_spec he) h4
    ·cases h3
   ·cases h
  ·split at h
   ·simp only [Bool.and_eq_true, beq_iff_eq] at h
    exact ok_fieldV ‹_› h.1 h.2
   ·cases h
  ·split at h
   ·simp only [Bool.and_eq_true] at h
    obtain ⟨⟨h1, h2⟩, h3⟩ := h
    split at h3
    ·rename_i n' e he
     simp only [Bool.and_eq_true, beq_iff_eq] at h3
     obtain ⟨⟨rfl, h4⟩, h5⟩ := h3
     exact ok_idxV ‹_› h1 h2 (arrayE_spec he) h4 h5
    ·cases h3
   ·cases h
  ·split at h
   ·simp only [Bool.and_eq_true] at h
    obtain ⟨⟨h1, h2⟩, h3⟩ := h
    split at h3
    ·exact ok_idxStr ‹_› h1 h2 ‹_›
    ·cases h3
   ·cases h
  ·split at h
   ·simp only [Bool.and_eq_true, beq_iff_eq] at h
    obtain ⟨⟨⟨rfl, h1⟩, h2⟩, h3⟩ := h
    split at h3
    ·rename_i k' et hm
     simp only [Bool.and_eq_true, beq_iff_eq] at h3
     obtain ⟨rfl, h4⟩ := h3
     obtain ⟨kt, hu, hk⟩ := mapE_spec hm
     split at h4
     ·rename_i cells
      simp only [Bool.and_eq_true, beq_iff_eq] at h4
      obtain ⟨⟨h5, h6⟩, h7⟩ := h4
      obtain ⟨z, hz, hz'⟩ := zeroIs_spec h7
      refine ok_lookup ‹_› h1 h2 hu hk h6 (.inl ⟨h5, rfl⟩) (fun _ => ?_)
      cases z <;> first | exact ⟨_, hz⟩ | cases hz'
     ·simp only [Bool.and_eq_true] at h4
      obtain ⟨⟨h5, h6⟩, h7⟩ := h4
      obtain ⟨z, hz, hz'⟩ := zeroIs_spec h7
      exact ok_lookup ‹_› h1 h2 hu hk h6 (.inr ⟨rfl, z, hz, hz'⟩) (fun ha => by rw [ha] at h5; cases h5)
    ·cases h3
   ·cases h
  ·split at h
   ·simp only [Bool.and_eq_true] at h
    obtain ⟨⟨⟨h1, h2⟩, h3⟩, h4⟩ := h
    split at h4
    ·rename_i k' et hm
     simp only [beq_iff_eq] at h4
     subst h4
     obtain ⟨kt, hu, hk⟩ := mapE_spec hm
     exact ok_mapset (.inl ‹_›) h1 h2 h3 hu hk
    ·cases h4
   ·simp only [Bool.and_eq_true] at h
    obtain ⟨⟨⟨h1, h2⟩, h3⟩, h4⟩ := h
    split at h4
    ·rename_i k' et hm
     simp only [beq_iff_eq] at h4
     subst h4
     obtain ⟨kt, hu, hk⟩ := mapE_spec hm
     exact ok_mapset (.inr ‹_›) h1 h2 h3 hu hk
    ·cases h4
   ·cases h
  ·split at h
   ·simp only [Bool.and_eq_true, beq_iff_eq] at h
    obtain ⟨h1, rfl⟩ := h
    exact ok_ext ‹_› h1
   ·cases h
  ·cases h

end Go.LS

/- Regions of compact code: the operations in their order, guards, calls. -/
namespace Go.LS
def guardOK (ops : Array Oper) : Option (Nat × Bool) → Option (Nat × Bool) → Bool
 | none, none => true
 | some (j, w), some (t, w') => ((ops[j]?).bind (·.dst)) == some t && w == w'
 | _, _ => false
def chkCall (o : Op) (k : AK) : Bool :=
 match k with
 | .call f xs' => match o with
  | .call ⟨.value (.func f'), xs, _⟩ => f == f' && okOpds xs.toList xs'
  | _ => false
 | .calld g xs' => match o with
  | .call ⟨.value x, xs, _⟩ => okOpd x g && okOpds xs.toList xs'
  | _ => false
 | _ => false
def isBad : AK → Bool
 | .bad => true
 | _ => false
def dstOK (N : Nat) : Option Nat → Bool
 | some d => decide (d < N)
 | none => true
def chkOper (P : Program) (N : Nat) (ops : Array Oper) (co : Oper) (o : AOp) : Bool :=
 co.dst == o.d && dstOK N o.d && guardOK ops co.guard o.g && (isBad o.k || chkCall co.op o.k || chkOp P co.op o.k)
def CallOK (P : Program) (call : CallT) : Prop :=
 ∀ (f : FuncId) (args : List V) (h : Heap) (v : V) (h' : Heap), call f args h = some (v, h') →
  ∃ fn, P.funcs[f]? = some fn ∧ fn.body.isSome = true ∧ (fn.name == "runtime.NumGoroutine") = false ∧
  ∀ (F : Nat → Option Obj) (w0 : World) (G : Ghost) (w : World) (cargs : Array Value), Inv G h w → FrameOK F G h w → Same w0 w → args.length = cargs.size →
   (∀ (j : Nat) (x : V), args[j]? = some x → x.free = true → R G x (cargs.getD j Go.undef)) →
   Calls P f cargs w fun e w' => ∃ cv G', e = .returned cv ∧ G.le G' ∧ Inv G' h' w' ∧ FrameOK F G' h' w' ∧ Same w0 w' ∧ R G' v cv
theorem SR.put {F : Nat → Option Obj} {w0 : World} {N : Nat} {G G' : Ghost} {lam lam' : Lam} {s : St} {a : Act} {w w' : World} (hs : SR F w0 N G lam s a w) (hG : G.le G') (hl : Lam.le lam lam') {loc : Loc} {h : Heap}
  (hi : Inv G' h w') (hf : FrameOK F G' h w') (hloc : LocR F G' lam' h loc w') (hsame : Same w0 w') {d : Option Nat} (hd : dstOK N d = true) {v : V} {cv : Value} (hv : RT G' lam' v cv) :
  SR F w0 N G' lam' (St.put ⟨s.t, loc, h⟩ d v) (a.put d cv) w' := by
 cases d with
 | none => exact ⟨hi, hf, hloc, fun t => (hs.tmp t).mono hG hl, hs.size, hs.defers, hsame⟩
 | some d =>
  have hd : d < N := by simpa [dstOK] using hd
  refine ⟨hi, hf, hloc, fun t => ?_, by simp [Act.put, hs.size], hs.defers, hsame⟩
  simp only [St.put, Act.put]
  by_cases ht : t = d
  ·subst ht
   have : t < a.tmps.size := by rw [hs.size]; exact hd
   rw [upd_eq]
   simpa [this] using hv
  ·rw [upd_ne _ _ ht]
   have := (hs.tmp t).mono hG hl
   simpa [Array.getElem?_setIfInBounds_ne (Ne.symm ht)] using this
theorem wanted_sound {F : Nat → Option Obj} {w0 : World} {N : Nat} {G : Ghost} {lam : Lam} {s : St} {a : Act} {w : World} (hs : SR F w0 N G lam s a w) {ops : Array Oper} {co : Oper} {o : AOp}
  (hg : guardOK ops co.guard o.g = true) {b : Bool} (hb : o.wanted s = some b) : Region.wanted co (yielded ops a.tmps) = b := by
 unfold Region.wanted
 unfold AOp.wanted at hb
 unfold guardOK at hg
 split at hg
 ·rename_i h1 h2
  rw [h2] at hb
  injection hb with hb
  subst hb
  rw [h1]
 ·rename_i j want t want' h1 h2
  simp only [Bool.and_eq_true, beq_iff_eq] at hg
  obtain ⟨hd, rfl⟩ := hg
  simp only [h2] at hb
  simp only [h1, yielded, hd, Option.bind_some]
  have ht := hs.tmp t
  have hget : a.tmps.getD t undef = (a.tmps[t]?).getD undef := by simp
  split at hb
  ·rename_i b' hb'
   injection hb with hb
   subst hb
   rw [hb'] at ht
   have := ht.bool_
   cases hc : a.tmps[t]? with
   | none => rw [hget, hc] at this; cases this
   | some c =>
    rw [hget, hc] at this
    simp only [Option.getD_some] at this
    subst this
    cases b' <;> cases want <;> rfl
  ·rename_i hb'
   injection hb with hb
   subst hb
   rw [hb'] at ht
   obtain ⟨cs, hc, _⟩ := R.tup_inv (show R G (.tup []) _ from ht)
   cases hc2 : a.tmps[t]? with
   | none => rfl
   | some c =>
    rw [hget, hc2] at hc
    simp only [Option.getD_some] at hc
    subst hc
    rfl
  ·cases hb
 ·cases hg
noncomputable def frameOf (F : Nat → Option Obj) (lam : Lam) (w : World) : Nat → Option Obj :=
 open Classical in fun b => if ∃ sl ver, lam sl = some (ver, b) then w.heap[b]? else F b
theorem frameOf_ok {F : Nat → Option Obj} {G : Ghost} {lam : Lam} {h : Heap} {loc : Loc} {w : World} (hi : Inv G h w) (hf : FrameOK F G h w) (hl : LocR F G lam h loc w) : FrameOK (frameOf F lam w) G h w := by
 intro b o hb
 unfold frameOf at hb
 split at hb
 ·rename_i hx
  obtain ⟨sl, ver, hx⟩ := hx
  exact ⟨hb, fun id ob r ho hr => hl.apart _ _ _ _ _ _ hx ho hr, hl.imm _ _ _ hx⟩
 ·exact hf _ _ hb
theorem frameOf_back {F : Nat → Option Obj} {G G' : Ghost} {lam : Lam} {h h' : Heap} {loc : Loc} {w w' : World} (hl : LocR F G lam h loc w) (hG : G.le G') (hf : FrameOK (frameOf F lam w) G' h' w') :
  FrameOK F G' h' w' ∧ LocR F G' lam h' loc w' := by
 have key : ∀ sl ver B, lam sl = some (ver, B) → frameOf F lam w B = w.heap[B]? := fun sl ver B hb => by
  unfold frameOf
  rw [if_pos ⟨sl, ver, hb⟩]
 have key2 : ∀ sl ver B, lam sl = some (ver, B) → ∃ o, frameOf F lam w B = some o := fun sl ver B hb => by
  obtain ⟨cells, hc⟩ := hl.conv _ _ _ hb
  obtain ⟨B', cs, ty, h1, h2, _⟩ := hl.val _ _ _ hc
  rw [hb] at h1
  injection h1 with h1
  injection h1 with _ h1
  subst h1
  exact ⟨_, by rw [key _ _ _ hb]; exact h2⟩
 refine ⟨fun b o hb => hf b o ?_, ⟨fun sl ver cells hc => ?_, hl.conv, fun sl ver B hb o => ?_, fun sl ver B id ob r hb ho hr => ?_, hl.inj, hl.frame⟩⟩
 ·unfold frameOf
  rw [if_neg]
  ·exact hb
  ·rintro ⟨sl, ver, hx⟩
   rw [hl.frame _ _ _ hx] at hb
   cases hb
 ·obtain ⟨B, cs, ty, h1, h2, h3⟩ := hl.val _ _ _ hc
  exact ⟨B, cs, ty, h1, (hf B _ (by rw [key _ _ _ h1]; exact h2)).1, h3.mono hG⟩
 ·obtain ⟨ob, hob⟩ := key2 _ _ _ hb
  exact (hf B ob hob).2.2 o
 ·obtain ⟨o, hob⟩ := key2 _ _ _ hb
  exact (hf B o hob).2.1 _ _ _ ho hr
theorem run_callFunc {P : Program} {f : FuncId} {fn : Func} (hf : P.funcs[f]? = some fn) (hb : fn.body.isSome = true) (hn : (fn.name == "runtime.NumGoroutine") = false) (args : Array Value) (w : World) :
  (callFunc f args).run P w = .ok (.enter f args) w := by
 have hn' : ¬ fn.name = "runtime.NumGoroutine" := by simpa using hn
 cases h : fn.body with
 | none => rw [h] at hb; cases hb
 | some c => simp [callFunc, hf, h, hn']
theorem call_run {P : Program} {o : Oper} {x : Operand} {xs : Array Operand} {ts : Array TypeId} {ρ : Operand → Value} {f : FuncId} {cx cy : Array Value} {fn : Func} (ho : o.op = .call ⟨.value x, xs, ts⟩) (hx : ρ x = .func (.func f) cx cy)
  (hf : P.funcs[f]? = some fn) (hb : fn.body.isSome = true) (hn : (fn.name == "runtime.NumGoroutine") = false) (w : World) :
  (execOp ρ o).run P w = .ok (.enter f (cx ++ xs.map ρ ++ cy)) w := by
 simp [execOp, ho, resolve, Deferred.ofValue, hx, invoke, run_callFunc hf hb hn]

section
variable {P : Program} {N : Nat} {ops : Array Oper} {co : Oper} {o : AOp} {call : CallT} {F : Nat → Option Obj} {w0 : World} {G : Ghost} {lam : Lam} {s s1 : St} {a : Act} {w : World}
theorem call_sound (hc : CallOK P call) (hs : SR F w0 N G lam s a w) {f : FuncId} {args : List V} {v : V} {h : Heap} (hcall : call f args s.h = some (v, h)) {cargs : Array Value} (hlen : args.length = cargs.size)
  (hargs : ∀ (j : Nat) (x : V), args[j]? = some x → RT G lam x (cargs.getD j undef)) (hd : dstOK N o.d = true) (hdst : co.dst = o.d)
  {Q : Exit → Act → World → Prop} {K : Act → World → Prop} (hK : ∀ G' lam' a' w', G.le G' → Lam.le lam lam' → SR F w0 N G' lam' (St.put ⟨s.t, s.loc, h⟩ o.d v) a' w' → K a' w')
  (hrun : ∀ fn, P.funcs[f]? = some fn → fn.body.isSome = true → (fn.name == "runtime.NumGoroutine") = false → (execOp a.eval co).run P w = .ok (.enter f cargs) w) : co.wp P a w K Q := by
 obtain ⟨fn, h1, h2, h3, h4⟩ := hc f args s.h v h hcall
 unfold Oper.wp
 rw [hrun fn h1 h2 h3]
 refine (h4 (frameOf F lam w) w0 G w cargs hs.inv (frameOf_ok hs.inv hs.frame hs.locs) hs.same hlen (fun j x hx hfree => (hargs j x hx).of hfree)).mono ?_
 rintro e w' ⟨cv, G', rfl, hG, hi, hf, hsame, hv⟩
 obtain ⟨hf', hl'⟩ := frameOf_back hs.locs hG hf
 rw [hdst]
 exact hK G' lam _ w' hG (.refl lam) (hs.put hG (.refl lam) hi hf' hl' hsame hd (RT.to hv))
theorem okOpds_rt (hs : SR F w0 N G lam s a w) {xs : Array Operand} {xs' : List Opd} (h : okOpds xs.toList xs' = true) :
  (xs'.map s.ev).length = (xs.map a.eval).size ∧ ∀ (j : Nat) (x : V), (xs'.map s.ev)[j]? = some x → RT G lam x ((xs.map a.eval).getD j undef) := by
 obtain ⟨h1, h2⟩ := okOpds_spec h
 refine ⟨by simpa using h1.symm, fun j x hx => ?_⟩
 rw [List.getElem?_map, Option.map_eq_some_iff] at hx
 obtain ⟨y, hy, rfl⟩ := hx
 have hj : j < xs.size := by have := (List.getElem?_eq_some_iff.1 hy).1; simpa [← h1] using this
 have := hs.ev (h2 j xs[j] y (by simp [hj]) hy)
 simpa [hj] using this
theorem dstOK_mono {N0 N : Nat} (hN : N0 ≤ N) {d : Option Nat} (h : dstOK N0 d = true) : dstOK N d = true := by
 cases d with
 | none => rfl
 | some d => simp only [dstOK, decide_eq_true_eq] at *; omega
theorem step_sound (hc : CallOK P call) {N0 : Nat} (hN : N0 ≤ N) (hchk : chkOper P N0 ops co o = true) {i : Nat} (hi : ops[i]? = some co) (hs : SR F w0 N G lam s a w) (h : stepO call o s = some s1)
  {Q : Exit → Act → World → Prop} {K : Act → World → Prop} (hK : ∀ G' lam' a' w', G.le G' → Lam.le lam lam' → SR F w0 N G' lam' s1 a' w' → K a' w') : wpOp P ops Q i K a w := by
 unfold chkOper at hchk
 simp only [Bool.and_eq_true, beq_iff_eq, Bool.or_eq_true] at hchk
 obtain ⟨⟨⟨hdst, hd0⟩, hg⟩, hk⟩ := hchk
 have hd := dstOK_mono hN hd0
 unfold wpOp
 simp only [hi]
 unfold stepO at h
 split at h
 ·rename_i hw
  rw [wanted_sound hs hg hw]
  simp only [if_true]
  left
  split at h
  ·rename_i v loc h' he
   replace he := evalO_some he
   injection h with h
   subst h
   rcases hk with (hk | hk) | hk
   ·unfold isBad at hk
    split at hk
    ·rename_i hb; rw [hb] at he; cases he
    ·cases hk
   ·unfold chkCall at hk
    split at hk
    ·rename_i f xs' hk'
     split at hk
     ·rename_i f' xs ts ho
      simp only [Bool.and_eq_true, beq_iff_eq] at hk
      obtain ⟨rfl, hx⟩ := hk
      rw [hk'] at he
      simp only [evalK] at he
      split at he
      ·rename_i v' h2 hcall
       simp only [Option.some.injEq, Prod.mk.injEq] at he
       obtain ⟨rfl, rfl, rfl⟩ := he
       obtain ⟨h1, h3⟩ := okOpds_rt hs hx
       exact call_sound hc hs hcall h1 h3 hd hdst hK (fun fn ha hb hn => by
        have := call_run (ρ := a.eval) (cx := #[]) (cy := #[]) ho rfl ha hb hn w
        simpa using this)
      ·cases he
     ·cases hk
    ·rename_i g xs' hk'
     split at hk
     ·rename_i x xs ts ho
      simp only [Bool.and_eq_true] at hk
      obtain ⟨hgx, hx⟩ := hk
      rw [hk'] at he
      simp only [evalK] at he
      split at he
      ·rename_i f first caps hfn
       split at he
       ·rename_i v' h2 hcall
        simp only [Option.some.injEq, Prod.mk.injEq] at he
        obtain ⟨rfl, rfl, rfl⟩ := he
        obtain ⟨h1, h3⟩ := okOpds_rt hs hx
        have hr := hs.ev hgx
        rw [hfn] at hr
        obtain ⟨cx, cy, hcv, hX, hY⟩ := R.fn_inv (show R G (.fn f first caps) _ from hr)
        refine call_sound (cargs := cx ++ xs.map a.eval ++ cy) hc hs hcall ?_ (fun j y hy => ?_) hd hdst hK (fun fn ha hb hn => call_run ho hcv ha hb hn w)
        ·have := hX.size; have := hY.size
         simp at h1 ⊢; omega
        ·have e1 := hX.size; have e2 := hY.size
         simp only [List.length_map] at h1
         by_cases c1 : j < first.length
         ·rw [List.getElem?_append_left c1] at hy
          have hj : j < cx.size := by omega
          have := hX.rel j y hy
          refine RT.to ?_
          rw [show (cx ++ xs.map a.eval ++ cy).getD j undef = cx.getD j undef from by
           rw [Array.append_assoc]
           simp [Array.getElem?_append_left hj]]
          exact this
         ·rw [List.getElem?_append_right (by omega)] at hy
          by_cases c2 : j - first.length < xs'.length
          ·rw [List.getElem?_append_left (by simpa using c2)] at hy
           have := h3 _ _ hy
           rw [show (cx ++ xs.map a.eval ++ cy).getD j undef = (xs.map a.eval).getD (j - first.length) undef from by
            rw [Array.append_assoc]
            have h1' : xs'.length = xs.size := by simpa using h1
            simp only [Array.getD_eq_getD_getElem?]
            rw [Array.getElem?_append_right (by omega), Array.getElem?_append_left (by simp; omega), e1]]
           exact this
          ·rw [List.getElem?_append_right (by simp; omega)] at hy
           have := hY.rel _ _ hy
           refine RT.to ?_
           rw [show (cx ++ xs.map a.eval ++ cy).getD j undef = cy.getD (j - first.length - (xs'.map s.ev).length) undef from by
            rw [Array.append_assoc]
            have h1' : xs'.length = xs.size := by simpa using h1
            simp only [Array.getD_eq_getD_getElem?]
            rw [Array.getElem?_append_right (by omega), Array.getElem?_append_right (by simp; omega)]
            simp [e1, h1']]
           exact this
       ·cases he
      ·cases he
     ·cases hk
    ·cases hk
   ·obtain ⟨cv, w', hrun, G', lam', hG, hl, hi', hf', hloc', hsame, hv⟩ := chkOp_ok hk F w0 N G lam s a w hs call v loc h' (by rw [hdst]; exact he)
    have hfin : K (a.put co.dst cv) w' := by
     rw [hdst]
     exact hK G' lam' _ w' hG hl (hs.put hG hl hi' hf' hloc' hsame hd hv)
    unfold Oper.wp
    rcases hrun with hrun | ⟨hrun, rfl⟩
    ·rw [hrun]; exact hfin
    ·rw [hrun]; exact hfin
  ·cases h
 ·rename_i hw
  rw [wanted_sound hs hg hw]
  injection h with h
  subst h
  simp only [Bool.false_eq_true, if_false]
  rw [hdst]
  exact hK G lam _ w (.refl G) (.refl lam) (hs.put (.refl G) (.refl lam) hs.inv hs.frame hs.locs hs.same hd (hundef G lam))
 ·cases h

end
end Go.LS

/- Results of a function; its code's check. -/
namespace Go.LS
def chkRes1 (P : Program) : ResultVar → ARes → Bool
 | .tmp t, .tmp t' => t == t'
 | .cell a t, .cell a' size agg => a == a' && aggB P t == some agg && (!agg || sizeB P t == some size)
 | _, _ => false
def chkRes (P : Program) : List ResultVar → List ARes → Bool
 | [], [] => true
 | r :: l, r' :: l' => chkRes1 P r r' && chkRes P l l'
 | _, _ => false
def resOf (tmps : Array Value) : ResultVar → Sem Value
 | .tmp t => pure (tmps.getD t undef)
 | .cell a t => do loadVar t (← asAddr (tmps.getD a undef))

section
variable {P : Program} {N : Nat} {F : Nat → Option Obj} {w0 : World} {G : Ghost} {lam : Lam} {s : St} {a : Act} {w : World}
theorem res1_run (hs : SR F w0 N G lam s a w) {r : ResultVar} {r' : ARes} (hc : chkRes1 P r r' = true) {v : V} (hv : resV1 s r' = some v) :
  ∃ c, (resOf a.tmps r).run P w = .ok c w ∧ RT G lam v c := by
 unfold chkRes1 at hc
 split at hc
 ·simp only [beq_iff_eq] at hc
  subst hc
  simp only [resV1, Option.some.injEq] at hv
  subst hv
  exact ⟨_, rfl, hs.tmp _⟩
 ·rename_i t ty t' size agg
  simp only [Bool.and_eq_true, beq_iff_eq] at hc
  obtain ⟨⟨rfl, ha⟩, hsz⟩ := hc
  have hrt := hs.tmp t
  -- the address
  simp only [resV1] at hv
  split at hv
  ·rename_i cs off hg
   obtain ⟨b, q, hcv, hcell⟩ := hs.getP hrt hg
   have hload : ∃ c, (loadVar ty ⟨b, q + off, none⟩).run P w = .ok c w ∧ RT G lam v c := by
    split at hv
    ·rename_i hagg
     subst hagg
     split at hv
     ·rename_i l hl
      injection hv with hv
      subst hv
      obtain ⟨hlen, hget⟩ := sub_spec hl
      have hx : ∀ j, j < size → ∃ x u, l[j]? = some x ∧ x.leaf = true ∧ w.cell? ⟨b, q + off + j, none⟩ = some u ∧ R G x u := by
       intro j hj
       have hj' : j < l.length := by omega
       have e := hget j hj
       rw [List.getElem?_eq_getElem hj'] at e
       obtain ⟨h1, u, h2, h3⟩ := hcell (off + j) _ e.symm
       exact ⟨_, u, List.getElem?_eq_getElem hj', h1, by rw [Nat.add_assoc]; exact h2, h3⟩
      let f : Nat → Value := fun j => (w.cell? ⟨b, q + off + j, none⟩).getD undef
      have hf : ∀ j, j < size → w.cell? ⟨b, q + off + j, none⟩ = some (f j) := fun j hj => by
       obtain ⟨x, u, _, _, h2, _⟩ := hx j hj
       simp [f, h2]
      have hsz' : sizeB P ty = some size := by simpa using hsz
      refine ⟨.agg ((List.range size).map f).toArray, ?_, RT.to (.agg (by simp [hlen]) (fun j x hxj => ?_) (fun j x hxj => ?_))⟩
      ·simp only [loadVar]
       simp [run_isAgg ha, run_sizeB hsz', run_load_cells size f hf]
      ·obtain ⟨x', u, h1, h2, _⟩ := hx j (by rw [← hlen]; exact (List.getElem?_eq_some_iff.1 hxj).1)
       rw [h1] at hxj; injection hxj with hxj; subst hxj; exact h2
      ·have hj : j < size := by rw [← hlen]; exact (List.getElem?_eq_some_iff.1 hxj).1
       obtain ⟨x', u, h1, h2, h3, h4⟩ := hx j hj
       rw [h1] at hxj; injection hxj with hxj; subst hxj
       have : f j = u := by simp [f, h3]
       simp [hj, this, h4]
     ·cases hv
    ·rename_i hagg
     have hagg : agg = false := by simpa using hagg
     subst hagg
     obtain ⟨h1, u, h2, h3⟩ := hcell off _ hv
     refine ⟨u, ?_, RT.to h3⟩
     simp only [loadVar]
     simp [run_isAgg ha, h2]
   obtain ⟨c, h1, h2⟩ := hload
   refine ⟨c, ?_, h2⟩
   simp only [resOf, hcv]
   simpa [asAddr] using h1
  ·cases hv
 ·cases hc
theorem run_mapM_list {f : ResultVar → Sem Value} : ∀ {l : List ResultVar} {g : Nat → Value}, (∀ (j : Nat) (r : ResultVar), l[j]? = some r → (f r).run P w = .ok (g j) w) →
  (l.mapM f).run P w = .ok ((List.range l.length).map g) w
 | [], g, h => by simp
 | r :: l, g, h => by
  have ih := run_mapM_list (f := f) (l := l) (g := fun j => g (j + 1)) (fun j r' hr => h (j + 1) r' (by simpa using hr))
  have h0 := h 0 r rfl
  rw [List.mapM_cons]
  simp [h0, ih, List.range_succ_eq_map]
theorem resList_run (hs : SR F w0 N G lam s a w) : ∀ {l : List ResultVar} {l' : List ARes}, chkRes P l l' = true → ∀ {vs : List V}, resV s l' = some vs →
  vs.length = l.length ∧ ∀ (j : Nat) (r : ResultVar), l[j]? = some r → ∃ v c, vs[j]? = some v ∧ (resOf a.tmps r).run P w = .ok c w ∧ R G v c
 | [], [], _, vs, hv => by
  simp only [resV, Option.some.injEq] at hv
  subst hv
  exact ⟨rfl, fun j r hr => by simp at hr⟩
 | r :: l, r' :: l', hc, vs, hv => by
  simp only [chkRes, Bool.and_eq_true] at hc
  simp only [resV] at hv
  split at hv
  ·rename_i v vs' h1 h2
   split at hv
   ·rename_i hfree
    injection hv with hv
    subst hv
    obtain ⟨h3, h4⟩ := resList_run hs hc.2 h2
    obtain ⟨c, h5, h6⟩ := res1_run hs hc.1 h1
    refine ⟨by simp [h3], fun j r0 hr => ?_⟩
    cases j with
    | zero => simp at hr; subst hr; exact ⟨v, c, rfl, h5, h6.of hfree⟩
    | succ j => exact h4 j r0 (by simpa using hr)
   ·cases hv
  ·cases hv
 | [], _ :: _, hc, _, _ => by cases hc
 | _ :: _, [], hc, _, _ => by cases hc
def packV : List V → V
 | [v] => v
 | vs => .tup vs
theorem results_run (hs : SR F w0 N G lam s a w) {fn : Func} {l' : List ARes} (hc : chkRes P fn.results.toList l' = true) {vs : List V} (hv : resV s l' = some vs) :
  ∃ c, (results fn a.tmps).run P w = .ok c w ∧ R G (packV vs) c := by
 obtain ⟨hlen, hres⟩ := resList_run hs hc hv
 have hpick : ∀ j, j < fn.results.size → ∃ v c r, fn.results.toList[j]? = some r ∧ vs[j]? = some v ∧ (resOf a.tmps r).run P w = .ok c w ∧ R G v c := fun j hj => by
  have : fn.results.toList[j]? = some fn.results[j] := by simp [hj]
  obtain ⟨v, c, h1, h2, h3⟩ := hres j _ this
  exact ⟨v, c, _, this, h1, h2, h3⟩
 let g : Nat → Value := fun j => if h : j < fn.results.size then Classical.choose (Classical.choose_spec (hpick j h)) else undef
 have hg : ∀ (j : Nat) (h : j < fn.results.size), (resOf a.tmps fn.results[j]).run P w = .ok (g j) w ∧ ∃ v, vs[j]? = some v ∧ R G v (g j) := fun j h => by
  have hsp := Classical.choose_spec (Classical.choose_spec (hpick j h))
  obtain ⟨r, h1, h2, h3, h4⟩ := hsp
  have hr : fn.results[j] = r := by simpa [h] using h1
  have : g j = Classical.choose (Classical.choose_spec (hpick j h)) := by simp only [g]; rw [dif_pos h]
  rw [hr, this]
  exact ⟨h3, _, h2, h4⟩
 have hrun : (fn.results.mapM (resOf a.tmps)).run P w = .ok ((List.range fn.results.size).map g).toArray w := by
  have := run_mapM_list (P := P) (w := w) (l := fn.results.toList) (f := resOf a.tmps) (g := g) (fun j r hr => by
   have hj : j < fn.results.size := by have := (List.getElem?_eq_some_iff.1 hr).1; simpa using this
   have : fn.results[j] = r := by simpa [hj] using hr
   rw [← this]
   exact (hg j hj).1)
  rw [Array.mapM_eq_mapM_toList]
  simp [this]
 have hlen' : vs.length = fn.results.size := by simpa using hlen
 have hR : ∀ (j : Nat) (v : V), vs[j]? = some v → R G v (g j) := fun j v hv' => by
  have hj : j < fn.results.size := by rw [← hlen']; exact (List.getElem?_eq_some_iff.1 hv').1
  obtain ⟨_, v', h1, h2⟩ := hg j hj
  rw [h1] at hv'; injection hv' with hv'; subst hv'; exact h2
 have hres : (results fn a.tmps).run P w = .ok (if h : ((List.range fn.results.size).map g).toArray.size = 1 then ((List.range fn.results.size).map g).toArray[0] else .tuple ((List.range fn.results.size).map g).toArray) w := by
  have hfun : results fn a.tmps = (do
    let vs ← fn.results.mapM (resOf a.tmps)
    pure (if h : vs.size = 1 then vs[0] else .tuple vs)) := by
   unfold results
   congr 1
  rw [hfun]
  simp [hrun]
 refine ⟨_, hres, ?_⟩
 by_cases h1 : fn.results.size = 1
 ·have hv1 : vs.length = 1 := by omega
  obtain ⟨v, hv2⟩ := List.length_eq_one_iff.1 hv1
  have hp : packV vs = v := by rw [hv2]; rfl
  rw [hp]
  have := hR 0 v (by rw [hv2]; rfl)
  simpa [h1] using this
 ·rw [dif_neg (by simpa using h1)]
  have htup : R G (.tup vs) (.tuple ((List.range fn.results.size).map g).toArray) :=
   .tup (by simp [hlen']) (fun j v hv' => by
    have hj : j < fn.results.size := by rw [← hlen']; exact (List.getElem?_eq_some_iff.1 hv').1
    simpa [hj] using hR j v hv')
  unfold packV
  split
  ·simp at hlen'; omega
  ·exact htup

end
end Go.LS

/- Regions: in the given order, and in any order. -/
namespace Go.LS
theorem Lam.le.trans {a b c : Lam} (h : Lam.le a b) (k : Lam.le b c) : Lam.le a c := fun s v B hb => by
 obtain ⟨v1, B1, h1, h2⟩ := h s v B hb
 obtain ⟨v2, B2, h3, h4⟩ := k s v1 B1 h1
 refine ⟨v2, B2, h3, ?_⟩
 rcases h2 with h2 | ⟨rfl, rfl⟩ <;> rcases h4 with h4 | ⟨rfl, rfl⟩
 ·exact .inl (by omega)
 ·exact .inl h2
 ·exact .inl h4
 ·exact .inr ⟨rfl, rfl⟩
def isFreeze (N : Nat) (o : AOp) : Bool :=
 match o.k with
 | .freeze (.t t) => o.d == some t && o.g.isNone && decide (t < N)
 | _ => false
def chkOps (P : Program) (N : Nat) (ops : Array Oper) : Nat → List AOp → Bool
 | i, [] => i == ops.size
 | i, o :: l => if isFreeze N o then chkOps P N ops i l else match ops[i]? with
  | some co => chkOper P N ops co o && chkOps P N ops (i + 1) l
  | none => false
def preOf (o : Oper) : List Nat := (o.after.toList.filter (Region.binds .any)).map (·.on)
def chkDops (P : Program) (N : Nat) (ops : Array Oper) : List Oper → List AOp → List (List Nat) → Bool
 | [], [], [] => true
 | co :: cl, o :: l, p :: pl => chkOper P N ops co o && p == preOf co && chkDops P N ops cl l pl
 | _, _, _ => false
theorem chkDops_spec {P : Program} {N : Nat} {ops : Array Oper} : ∀ {cl : List Oper} {l : List AOp} {pl : List (List Nat)}, chkDops P N ops cl l pl = true →
  l.length = cl.length ∧ pl.length = cl.length ∧ ∀ (j : Nat) (co : Oper), cl[j]? = some co → ∃ o, l[j]? = some o ∧ chkOper P N ops co o = true ∧ pl[j]? = some (preOf co)
 | [], [], [], _ => ⟨rfl, rfl, fun j co h => by simp at h⟩
 | co :: cl, o :: l, p :: pl, h => by
  simp only [chkDops, Bool.and_eq_true, beq_iff_eq] at h
  obtain ⟨⟨h1, rfl⟩, h2⟩ := h
  obtain ⟨h3, h4, h5⟩ := chkDops_spec h2
  refine ⟨by simp [h3], by simp [h4], fun j co' hj => ?_⟩
  cases j with
  | zero => simp at hj; subst hj; exact ⟨o, rfl, h1, rfl⟩
  | succ j => exact h5 j co' (by simpa using hj)
 | [], [], _ :: _, h => by cases h
 | [], _ :: _, _, h => by cases h
 | _ :: _, [], _, h => by cases h
 | _ :: _, _ :: _, [], h => by cases h

section
variable {P : Program} {N : Nat} {ops : Array Oper} {call : CallT} {F : Nat → Option Obj} {w0 : World} {G : Ghost} {lam : Lam} {s s1 : St} {a : Act} {w : World}
theorem freeze_sound (hs : SR F w0 N G lam s a w) {o : AOp} (ho : isFreeze N o = true) (h : stepO call o s = some s1) :
  ∃ G', G.le G' ∧ SR F w0 N G' lam s1 a w := by
 unfold isFreeze at ho
 split at ho
 ·rename_i t hk
  simp only [Bool.and_eq_true, beq_iff_eq, decide_eq_true_eq, Option.isNone_iff_eq_none] at ho
  obtain ⟨⟨hd, hg⟩, ht⟩ := ho
  unfold stepO at h
  simp only [AOp.wanted, hg] at h
  split at h
  ·rename_i v' loc' h' he
   replace he := evalO_some he
   simp only [hk, hd, evalK, St.ev] at h he
   injection h with h
   subst h
   split at he
   ·rename_i v h2 hf
    simp only [Option.some.injEq, Prod.mk.injEq] at he
    obtain ⟨rfl, rfl, rfl⟩ := he
    have key : ∀ (G' : Ghost), G.le G' → Tie F G' lam h2 s.loc w → RT G' lam v (a.tmps.getD t undef) → SR F w0 N G' lam (St.put ⟨s.t, s.loc, h2⟩ (some t) v) a w := by
     intro G' hl htie hrt
     refine ⟨htie.inv, htie.frame, htie.locs, fun t' => ?_, hs.size, hs.defers, hs.same⟩
     simp only [St.put]
     by_cases he : t' = t
     ·subst he; rw [upd_eq]; exact hrt
     ·rw [upd_ne _ _ he]; exact (hs.tmp t').mono hl (.refl lam)
    have hrt := hs.tmp t
    cases hv : s.t t with
    | row id off len cap =>
     rw [hv] at hf hrt
     simp only [freezeV] at hf
     split at hf
     ·rename_i l hob
      split at hf
      ·rename_i hle
       injection hf with hf
       injection hf with h3 h4
       subst h3 h4
       obtain ⟨cap', ad, r, hc, hr, hlc, hcc, hcr, had⟩ := R.row_inv (show R G _ _ from hrt)
       obtain ⟨r', hr', cs, ty, k1, k2, k3, k4, k5⟩ := hs.inv.obj _ _ hob
       rw [hr] at hr'
       injection hr' with hr'
       subst hr'
       have htie := hs.tie
       obtain ⟨f1, f2, f3⟩ := htie.free hob hr
       obtain ⟨hl, htie2⟩ := (htie.kill id).setImm (Ext.refl w) (B := r.b) (m := fun q => cs[q]?) (fun o c hc => by rw [k5] at hc; cases hc) f1 f2 f3
        (fun o c hc => by rw [cell_heap]; exact ⟨cs, ty, _, k1, hc⟩)
       refine ⟨_, hl, key _ hl htie2 ?_⟩
       rw [hc]
       refine RT.to (R.lst_mk (b := r.b) (o := off * r.s) (s := r.s) (fun i j => cs.getD ((off + i) * r.s + j) undef) ?_ (by omega) (fun hne => ?_) trivial (fun i e hi => ?_) (fun i e j x hi hj => ?_))
       ·simp; omega
       ·have : cap' ≠ 0 := by
         intro h0
         apply hne
         have : len = 0 := by omega
         subst this
         simp
        rw [had this]
       ·rw [List.getElem?_take] at hi
        split at hi
        ·rw [List.getElem?_drop] at hi; exact (k4 _ _ hi).1
        ·cases hi
       ·rw [List.getElem?_take] at hi
        split at hi
        ·rw [List.getElem?_drop] at hi
         obtain ⟨h6, h7⟩ := k4 _ _ hi
         obtain ⟨h8, h9⟩ := h7 _ _ hj
         have hj' : j < r.s := by rw [← h6]; exact (List.getElem?_eq_some_iff.1 hj).1
         have hi' : off + i < r.cap := Nat.lt_of_lt_of_le (List.getElem?_eq_some_iff.1 hi).1 k3
         have hlt : (off + i) * r.s + j < cs.size := by
          have : (off + i + 1) * r.s ≤ r.cap * r.s := Nat.mul_le_mul_right _ hi'
          rw [Nat.add_mul, Nat.one_mul] at this
          omega
         refine ⟨?_, h8, h9.mono hl⟩
         simp only [Ghost.immut, if_true]
         rw [← Nat.add_mul]
         simp [hlt]
        ·cases hi
      ·cases hf
     ·cases hf
    | lst tg l =>
     rw [hv] at hf hrt
     simp only [freezeV, Option.some.injEq, Prod.mk.injEq] at hf
     obtain ⟨rfl, rfl⟩ := hf
     refine ⟨G, .refl G, key G (.refl G) hs.tie ?_⟩
     obtain ⟨a', cap, b, o', s', f, hc, h1, h2, h3, h4, h5⟩ := R.lst_inv (show R G _ _ from hrt)
     rw [hc]
     refine RT.to (R.lst_mk f rfl h1 h2 ?_ h4 h5)
     cases tg with
     | own t => trivial
     | _ => exact h3
    | _ => rw [hv] at hf; simp [freezeV] at hf
   ·cases he
  ·cases h
 ·cases ho
theorem ops_sound (hc : CallOK P call) {N0 : Nat} (hN : N0 ≤ N) {Q : Exit → Act → World → Prop} {s' : St} : ∀ (l : List AOp) (i : Nat) (G : Ghost) (lam : Lam) (s : St) (a : Act) (w : World),
  chkOps P N0 ops i l = true → SR F w0 N G lam s a w → runOps call l s = some s' →
  (∀ G' lam' a' w', G.le G' → Lam.le lam lam' → SR F w0 N G' lam' s' a' w' → Q .normal a' w') → i ≤ ops.size → wpOps P ops Q (List.range' i (ops.size - i)) a w
 | [], i, G, lam, s, a, w, hchk, hs, h, hQ, _ => by
  simp only [chkOps, beq_iff_eq] at hchk
  subst hchk
  injection h with h
  subst h
  simp only [Nat.sub_self, List.range'_zero, wpOps]
  exact hQ G lam a w (.refl G) (.refl lam) hs
 | o :: l, i, G, lam, s, a, w, hchk, hs, h, hQ, hi => by
  unfold chkOps at hchk
  unfold runOps at h
  split at h
  ·rename_i s2 h2
   split at hchk
   ·rename_i hf
    have hf' : isFreeze N o = true := by
     unfold isFreeze at hf ⊢
     split at hf
     ·simp only [Bool.and_eq_true, decide_eq_true_eq] at hf ⊢
      exact ⟨hf.1, by omega⟩
     ·cases hf
    obtain ⟨G', hl, hs'⟩ := freeze_sound hs hf' h2
    exact ops_sound hc hN l i G' lam s2 a w hchk hs' h (fun G2 lam2 a2 w2 h3 h4 h5 => hQ G2 lam2 a2 w2 (hl.trans h3) h4 h5) hi
   ·split at hchk
    ·rename_i co hco
     simp only [Bool.and_eq_true] at hchk
     have hlt : i < ops.size := (Array.getElem?_eq_some_iff.1 hco).1
     have : ops.size - i = (ops.size - (i + 1)) + 1 := by omega
     rw [this, List.range'_succ, wpOps_cons]
     exact step_sound hc hN hchk.1 hco hs h2 (fun G' lam' a' w' h3 h4 h5 =>
      ops_sound hc hN l (i + 1) G' lam' s2 a' w' hchk.2 h5 h (fun G2 lam2 a2 w2 h6 h7 h8 => hQ G2 lam2 a2 w2 (h3.trans h6) (Lam.le.trans h4 h7) h8) hlt)
    ·cases hchk
  ·cases h
theorem ready_eq {pre : List (List Nat)} {l : List AOp} (hchk : chkDops P N ops ops.toList l pre = true) (listed : Array Bool) : readyA pre listed = Region.ready .any ops listed := by
 obtain ⟨_, h2, h3⟩ := chkDops_spec hchk
 unfold readyA Region.ready
 rw [h2]
 simp only [Array.length_toList]
 refine List.filter_congr (fun i hi => ?_)
 have hi' : i < ops.size := by simpa using hi
 have hget : ops[i]? = some ops[i] := by simp [hi']
 obtain ⟨o, _, _, h4⟩ := h3 i ops[i] (by simp [hi'])
 have : pre.getD i [] = preOf ops[i] := by rw [List.getD_eq_getElem?_getD, h4]; rfl
 rw [this, hget]
 simp only [Option.map_some, Option.getD_some]
 congr 1
 unfold preOf
 rw [← Array.all_toList, List.all_map, List.all_filter]
 congr 1
theorem dops_sound (hc : CallOK P call) {N0 : Nat} (hN : N0 ≤ N) {l : List AOp} {pre : List (List Nat)} (hchk : chkDops P N0 ops ops.toList l pre = true) {Q : Exit → Act → World → Prop} {E : St → Prop} :
  ∀ (n : Nat) (listed : Array Bool) (G : Ghost) (lam : Lam) (s : St) (a : Act) (w : World), SR F w0 N G lam s a w → AllOrdP (stepAt call l) pre E n listed s →
  (∀ G' lam' s' a' w', E s' → G.le G' → Lam.le lam lam' → SR F w0 N G' lam' s' a' w' → Q .normal a' w') → wpAny P .any ops Q n listed a w
 | 0, listed, G, lam, s, a, w, hs, h, hQ => by
  obtain ⟨h1, h2⟩ := h
  refine ⟨by rw [← ready_eq hchk]; exact h1, hQ G lam s a w h2 (.refl G) (.refl lam) hs⟩
 | n + 1, listed, G, lam, s, a, w, hs, h, hQ => by
  obtain ⟨h1, h2⟩ := h
  refine ⟨fun hr => ?_, fun i hi => ?_⟩
  ·rw [← ready_eq hchk] at hr
   exact hQ G lam s a w (h1 hr) (.refl G) (.refl lam) hs
  ·rw [← ready_eq hchk] at hi
   obtain ⟨s1, h3, h4⟩ := h2 i hi
   unfold stepAt at h3
   split at h3
   ·rename_i o ho
    obtain ⟨k1, k2, k3⟩ := chkDops_spec hchk
    have hlt : i < ops.size := by
     have := (List.getElem?_eq_some_iff.1 ho).1
     rw [k1] at this
     simpa using this
    obtain ⟨o', h5, h6, _⟩ := k3 i ops[i] (by simp [hlt])
    rw [ho] at h5
    injection h5 with h5
    subst h5
    exact step_sound hc hN h6 (by simp [hlt]) hs h3 (fun G' lam' a' w' h7 h8 h9 =>
     dops_sound hc hN hchk n _ G' lam' s1 a' w' h9 h4 (fun G2 lam2 s2 a2 w2 e0 e1 e2 e3 => hQ G2 lam2 s2 a2 w2 e0 (h7.trans e1) (Lam.le.trans h8 e2) e3))
   ·cases h3
theorem AObj.under_of {G : Ghost} {n : Nat} (hn : ∀ id, G.ρ id ≠ none → id < n) {ob : AObj} {r : Rec} {w : World} (h : ObjR G ob r w) : ob.Under n := by
 cases ob with
 | var cells => obtain ⟨cs, ty, _, h2, _⟩ := h; exact V.underL_iff.2 fun j x hj => (h2.rel j x hj).ids hn
 | row l => obtain ⟨cs, ty, _, _, _, h2, _⟩ := h; exact V.underLL_iff.2 fun i e j x hi hj => (((h2 i e hi).2 j x hj).2).ids hn
 | map k f => obtain ⟨es, cl, _, h2, _⟩ := h; exact fun m v hv => let ⟨e, _, _, he⟩ := h2.2.2.1 m v hv; he.ids hn
 | tok a b => trivial
theorem ObjR.forget {G G2 : Ghost} {n : Nat} (hM2 : G2.M = G.M) (hr2 : ∀ id r, id < n → G.ρ id = some r → G2.ρ id = some r) {ob : AObj} {r : Rec} {w : World} (hu : ob.Under n) (h : ObjR G ob r w) : ObjR G2 ob r w := by
 have hM : ∀ b o c, G.M b o = some c → G2.M b o = some c := fun b o c hc => by rw [hM2]; exact hc
 cases ob with
 | var cells =>
  obtain ⟨cs, ty, h1, h2, h3⟩ := h
  exact ⟨cs, ty, h1, ⟨h2.size, h2.leaf, fun j x hj => (h2.rel j x hj).forget hM hr2 (V.underL_iff.1 hu j x hj)⟩, by rw [hM2]; exact h3⟩
 | row l =>
  obtain ⟨cs, ty, h1, h2, h3, h4, h5⟩ := h
  exact ⟨cs, ty, h1, h2, h3, fun i e hi => ⟨(h4 i e hi).1, fun j x hj => ⟨((h4 i e hi).2 j x hj).1, ((h4 i e hi).2 j x hj).2.forget hM hr2 (V.underLL_iff.1 hu i e j x hi hj)⟩⟩, by rw [hM2]; exact h5⟩
 | map k f =>
  obtain ⟨es, cl, h1, ⟨h2, h3, h4, h5⟩, h6, h7⟩ := h
  exact ⟨es, cl, h1, ⟨h2, h3, fun m v hv => let ⟨e, e1, e2, e3⟩ := h4 m v hv; ⟨e, e1, e2, e3.forget hM hr2 (hu m v hv)⟩, h5⟩, h6, by rw [hM2]; exact h7⟩
 | tok a b =>
  obtain ⟨cs, ty, h1, h2, h3, h4, h5⟩ := h
  exact ⟨cs, ty, h1, h2, h3, h4, by rw [hM2]; exact h5⟩
theorem swp_swp (i j id : Nat) : swp i j (swp i j id) = id := by
 unfold swp
 by_cases h1 : id = i
 ·subst h1
  by_cases h2 : j = id
  ·simp [h2]
  ·simp [h2]
 ·by_cases h2 : id = j
  ·subst h2; simp [h1]
  ·simp [h1, h2]
theorem swp_low {i j id n : Nat} (hi : n ≤ i) (hj : n ≤ j) (h : id < n) : swp i j id = id := by
 unfold swp
 rw [if_neg (by omega), if_neg (by omega)]
theorem swp_high {i j id n : Nat} (hi : i < n) (hj : j < n) (h : n ≤ id) : swp i j id = id := by
 unfold swp
 rw [if_neg (by omega), if_neg (by omega)]
theorem ends_sound {G0 G : Ghost} {lam0 lam : Lam} {s s1 s2 : St} {a0 a : Act} {w1 w : World} (h0 : SR F w0 N G0 lam0 s a0 w1) (hE : EndsAs s s1 s2) (hG : G0.le G) (hl : Lam.le lam0 lam) (h : SR F w0 N G lam s2 a w) :
  ∃ G', G0.le G' ∧ SR F w0 N G' lam s1 a w := by
 rcases hE with rfl | ⟨i, j, t⟩
 ·exact ⟨G, hG, h⟩
 have hn : ∀ id, G0.ρ id ≠ none → id < s.h.next := fun id hid => Classical.byContradiction fun hc => hid (h0.inv.fresh id (by omega))
 refine ⟨⟨G.M, fun id => G.ρ (swp i j id)⟩, ⟨hG.m, fun id r hr => ?_⟩, ?_⟩
 ·have : id < s.h.next := hn id (by rw [hr]; simp)
  simp only [swp_low t.i0 t.j0 this]
  exact hG.r _ _ hr
 have hr2 : ∀ id r, id < s.h.next → G.ρ id = some r → (Ghost.mk G.M fun id => G.ρ (swp i j id)).ρ id = some r := fun id r hid hr => by
  simp only [swp_low t.i0 t.j0 hid]; exact hr
 have hM : ∀ b o c, G.M b o = some c → (Ghost.mk G.M fun id => G.ρ (swp i j id)).M b o = some c := fun _ _ _ hc => hc
 have hrec : ∀ {v : V} {c : Value}, R G v c → v.under s.h.next = true → R ⟨G.M, fun id => G.ρ (swp i j id)⟩ v c := fun hv hu => hv.forget hM hr2 hu
 refine ⟨⟨h.inv.imm, fun id ob hob => ?_, fun id hid => ?_, fun id id' ob ob' r r' q1 q2 q3 q4 q5 => ?_⟩, fun b o hb => ?_, ⟨fun sl ver cells hc => ?_, fun sl ver B hB => ?_, h.locs.imm, fun sl ver B id ob r q1 q2 q3 => ?_, h.locs.inj, h.locs.frame⟩, fun k => ?_, h.size, h.defers, h.same⟩
 ·rw [t.objs id] at hob
  obtain ⟨r, g1, g2⟩ := h.inv.obj _ _ hob
  refine ⟨r, g1, ObjR.forget (G := G) (G2 := ⟨G.M, fun id => G.ρ (swp i j id)⟩) (n := s.h.next) rfl hr2 ?_ g2⟩
  by_cases hlow : swp i j id < s.h.next
  ·rw [t.old _ hlow] at hob
   obtain ⟨r0, _, g4⟩ := h0.inv.obj _ _ hob
   exact AObj.under_of hn g4
  ·refine t.new _ _ (by omega) (Classical.byContradiction fun hc => ?_) hob
   rw [h.inv.fresh _ (by omega)] at g1
   cases g1
 ·rw [t.next] at hid
  simp only [swp_high t.i1 t.j1 hid]
  exact h.inv.fresh id hid
 ·rw [t.objs] at q1 q2
  have := h.inv.sep _ _ _ _ _ _ q1 q2 q3 q4 q5
  rw [← swp_swp i j id, this, swp_swp]
 ·obtain ⟨g1, g2, g3⟩ := h.frame b o hb
  exact ⟨g1, fun id ob r q1 q2 => by rw [t.objs] at q1; exact g2 _ _ _ q1 q2, g3⟩
 ·rw [t.loc1, ← t.loc2] at hc
  obtain ⟨B, cs, ty, g1, g2, g3⟩ := h.locs.val sl ver cells hc
  refine ⟨B, cs, ty, g1, g2, g3.size, g3.leaf, fun q x hx => hrec (g3.rel q x hx) ?_⟩
  rw [t.loc2] at hc
  obtain ⟨_, cs0, _, _, _, g6⟩ := h0.locs.val sl ver cells hc
  exact (g6.rel q x hx).ids hn
 ·obtain ⟨cells, hc⟩ := h.locs.conv sl ver B hB
  exact ⟨cells, by rw [t.loc1, ← t.loc2]; exact hc⟩
 ·rw [t.objs] at q2
  exact h.locs.apart sl ver B _ ob r q1 q2 q3
 ·have hk := h.tmp k
  rcases t.t k with ⟨e1, e2⟩ | ⟨o, n, c, ⟨e1, e2⟩ | ⟨e1, e2⟩⟩
  ·rw [e1] at hk
   cases hv : s1.t k with
   | loc x y z => rw [hv] at hk; exact hk
   | _ =>
    rw [← hv]
    have hu : (s1.t k).under s.h.next = true := by
     rcases e2 with e2 | e2
     ·have h00 := h0.tmp k
      rw [e2] at h00
      exact (RT.of h00 (by rw [hv]; rfl)).ids hn
     ·exact e2
    exact RT.to (hrec (RT.of hk (by rw [hv]; rfl)) hu)
  ·rw [e1] at hk
   rw [e2]
   obtain ⟨cap', a', r, hc, q, h1, h2, h3, ha⟩ := R.row_inv (RT.of hk rfl)
   rw [hc]
   have : swp i j j = i := by unfold swp; split <;> simp_all
   exact RT.to (.row (r := r) (by simp only [this]; exact q) h1 h2 h3 ha)
  ·rw [e1] at hk
   rw [e2]
   obtain ⟨cap', a', r, hc, q, h1, h2, h3, ha⟩ := R.row_inv (RT.of hk rfl)
   rw [hc]
   have : swp i j i = j := by unfold swp; simp
   exact RT.to (.row (r := r) (by simp only [this]; exact q) h1 h2 h3 ha)

end
end Go.LS

/- Ranging over a map: the rounds come in whatever order. -/
namespace Go.LS
open Go.ChangeMaps (setBlock)

section
variable {P : Program} {N : Nat} {ops : Array Oper} {call : CallT} {F : Nat → Option Obj} {w0 : World} {G : Ghost} {lam : Lam} {s : St} {a : Act} {w : World}
def chkTo (P : Program) (N : Nat) (ops : Array Oper) : Nat → List AOp → Nat → Bool
 | i, [], n => i == n
 | i, o :: l, n => match ops[i]? with
  | some co => chkOper P N ops co o && chkTo P N ops (i + 1) l n
  | none => false
theorem chkTo_le {n : Nat} : ∀ {l : List AOp} {i : Nat}, chkTo P N ops i l n = true → i ≤ n
 | [], i, h => by simp only [chkTo, beq_iff_eq] at h; omega
 | o :: l, i, h => by
  simp only [chkTo] at h
  split at h
  ·simp only [Bool.and_eq_true] at h
   have := chkTo_le h.2
   omega
  ·cases h
theorem opsTo_sound (hc : CallOK P call) {N0 : Nat} (hN : N0 ≤ N) {Q : Exit → Act → World → Prop} {s' : St} {rest : List Nat} {n : Nat} : ∀ (l : List AOp) (i : Nat) (G : Ghost) (lam : Lam) (s : St) (a : Act) (w : World),
  chkTo P N0 ops i l n = true → SR F w0 N G lam s a w → runOps call l s = some s' →
  (∀ G' lam' a' w', G.le G' → Lam.le lam lam' → SR F w0 N G' lam' s' a' w' → wpOps P ops Q rest a' w') → wpOps P ops Q (List.range' i (n - i) ++ rest) a w
 | [], i, G, lam, s, a, w, hchk, hs, h, hQ => by
  simp only [chkTo, beq_iff_eq] at hchk
  subst hchk
  injection h with h
  subst h
  simp only [Nat.sub_self, List.range'_zero, List.nil_append]
  exact hQ G lam a w (.refl G) (.refl lam) hs
 | o :: l, i, G, lam, s, a, w, hchk, hs, h, hQ => by
  simp only [chkTo] at hchk
  unfold runOps at h
  split at h
  ·rename_i s2 h2
   split at hchk
   ·rename_i co hco
    simp only [Bool.and_eq_true] at hchk
    have hle := chkTo_le hchk.2
    have : n - i = (n - (i + 1)) + 1 := by omega
    rw [this, List.range'_succ, List.cons_append, wpOps_cons]
    exact step_sound hc hN hchk.1 hco hs h2 (fun G' lam' a' w' h3 h4 h5 =>
     opsTo_sound hc hN l (i + 1) G' lam' s2 a' w' hchk.2 h5 h (fun G2 lam2 a2 w2 h6 h7 h8 => hQ G2 lam2 a2 w2 (h3.trans h6) (Lam.le.trans h4 h7) h8))
   ·cases hchk
  ·cases h
theorem wpOp_value {Q : Exit → Act → World → Prop} {i : Nat} {co : Oper} {K : Act → World → Prop} {cv : Value} {w' : World} (hi : ops[i]? = some co) (hg : co.guard = none) (hr : (execOp a.eval co).run P w = .ok (.value cv) w')
  (hK : K (a.put co.dst cv) w') : wpOp P ops Q i K a w := by
 unfold wpOp
 simp only [hi]
 have : Region.wanted co (yielded ops a.tmps) = true := by unfold Region.wanted; rw [hg]
 rw [this]
 simp only [if_true]
 left
 unfold Oper.wp
 rw [hr]
 exact hK

theorem ObjR.heap {ob : AObj} {r : Rec} {w' : World} (h : ObjR G ob r w) (he : w'.heap[r.b]? = w.heap[r.b]?) : ObjR G ob r w' := by
 cases ob with
 | var cells => obtain ⟨cs, ty, h1, h2⟩ := h; exact ⟨cs, ty, by rw [he]; exact h1, h2⟩
 | row l => obtain ⟨cs, ty, h1, h2⟩ := h; exact ⟨cs, ty, by rw [he]; exact h1, h2⟩
 | map k f => obtain ⟨es, clock, h1, h2⟩ := h; exact ⟨es, clock, by rw [he]; exact h1, h2⟩
 | tok n sz => obtain ⟨cs, ty, h1, h2⟩ := h; exact ⟨cs, ty, by rw [he]; exact h1, h2⟩
theorem Inv.other {h : Heap} {w' : World} {b : Nat} (hi : Inv G h w) (h1 : ∀ id ob r, h.objs id = some ob → G.ρ id = some r → r.b ≠ b) (h2 : ∀ q, G.M b q = none) (hw : ∀ j, j ≠ b → w'.heap[j]? = w.heap[j]?) : Inv G h w' := by
 refine ⟨fun b' o c hc => ?_, fun id ob ho => ?_, hi.fresh, hi.sep⟩
 ·have hne : b' ≠ b := fun e => by rw [e, h2] at hc; cases hc
  have := hi.imm b' o c hc
  rw [cell_heap] at this ⊢
  obtain ⟨cs, ty, fr, h3, h4⟩ := this
  exact ⟨cs, ty, fr, by rw [hw _ hne]; exact h3, h4⟩
 ·obtain ⟨r, h3, h4⟩ := hi.obj id ob ho
  exact ⟨r, h3, h4.heap (hw _ (h1 _ _ _ ho h3))⟩
theorem SR.other {b : Nat} {o o' : Obj} {w' : World} (hs : SR F w0 N G lam s a w) (hF : F b = some o) (hw : ∀ j, j ≠ b → w'.heap[j]? = w.heap[j]?) (hb : w'.heap[b]? = some o') (hsame : Same w w') :
  SR (upd F b (some o')) w0 N G lam s a w' := by
 obtain ⟨h1, h2, h3⟩ := hs.frame b o hF
 have hlam : ∀ sl ver B, lam sl = some (ver, B) → B ≠ b := fun sl ver B hl e => by
  have := hs.locs.frame _ _ _ hl
  rw [e, hF] at this
  cases this
 refine ⟨hs.inv.other h2 h3 hw, fun b' o2 hb2 => ?_, ⟨fun sl ver cells hc => ?_, hs.locs.conv, hs.locs.imm, hs.locs.apart, hs.locs.inj, fun sl ver B hl => ?_⟩, hs.tmp, hs.size, hs.defers, hs.same.trans hsame⟩
 ·by_cases he : b' = b
  ·subst he
   rw [upd_eq] at hb2
   injection hb2 with hb2
   subst hb2
   exact ⟨hb, h2, h3⟩
  ·rw [upd_ne _ _ he] at hb2
   obtain ⟨h4, h5⟩ := hs.frame b' o2 hb2
   exact ⟨by rw [hw _ he]; exact h4, h5⟩
 ·obtain ⟨B, cs, ty, h4, h5, h6⟩ := hs.locs.val sl ver cells hc
  exact ⟨B, cs, ty, h4, by rw [hw _ (hlam _ _ _ h4)]; exact h5, h6⟩
 ·rw [upd_ne _ _ (hlam _ _ _ hl)]; exact hs.locs.frame _ _ _ hl
theorem SR.fence {b : Nat} {o : Obj} (hs : SR F w0 N G lam s a w) (hb : w.heap[b]? = some o) (h1 : ∀ id ob r, s.h.objs id = some ob → G.ρ id = some r → r.b ≠ b) (h2 : ∀ q, G.M b q = none) (h3 : ∀ sl ver B, lam sl = some (ver, B) → B ≠ b) :
  SR (upd F b (some o)) w0 N G lam s a w := by
 refine ⟨hs.inv, fun b' o2 hb2 => ?_, ⟨hs.locs.val, hs.locs.conv, hs.locs.imm, hs.locs.apart, hs.locs.inj, fun sl ver B hl => ?_⟩, hs.tmp, hs.size, hs.defers, hs.same⟩
 ·by_cases he : b' = b
  ·subst he
   rw [upd_eq] at hb2
   injection hb2 with hb2
   subst hb2
   exact ⟨hb, h1, h2⟩
  ·rw [upd_ne _ _ he] at hb2
   exact hs.frame b' o2 hb2
 ·rw [upd_ne _ _ (h3 _ _ _ hl)]; exact hs.locs.frame _ _ _ hl
theorem SR.ext {w' : World} (hs : SR F w0 N G lam s a w) (he : Ext w w') : SR F w0 N G lam s a w' :=
 ⟨hs.inv.ext he, hs.frame.ext he, hs.locs.ext he, hs.tmp, hs.size, hs.defers, hs.same.trans he.same⟩
theorem SR.kill (hs : SR F w0 N G lam s a w) (id : Nat) : SR F w0 N G lam ⟨s.t, s.loc, s.h.kill id⟩ a w := by
 have key : ∀ id' ob, (s.h.kill id).objs id' = some ob → s.h.objs id' = some ob ∧ id' ≠ id := fun id' ob h => by
  simp only [Heap.kill] at h
  by_cases e : id' = id
  ·rw [e, upd_eq] at h; cases h
  ·rw [upd_ne _ _ e] at h; exact ⟨h, e⟩
 exact ⟨⟨hs.inv.imm, fun id' ob h => hs.inv.obj id' ob (key _ _ h).1, hs.inv.fresh, fun i j x y r r' h1 h2 => hs.inv.sep i j x y r r' (key _ _ h1).1 (key _ _ h2).1⟩,
  fun b o hb => ⟨(hs.frame b o hb).1, fun i ob r h1 h2 => (hs.frame b o hb).2.1 i ob r (key _ _ h1).1 h2, (hs.frame b o hb).2.2⟩,
  ⟨hs.locs.val, hs.locs.conv, hs.locs.imm, fun sl ver B i ob r h1 h2 h3 => hs.locs.apart sl ver B i ob r h1 (key _ _ h2).1 h3, hs.locs.inj, hs.locs.frame⟩, hs.tmp, hs.size, hs.defers, hs.same⟩
theorem SR.named (hs : SR F w0 N G lam s a w) (r : Rec) : ∃ G', G.le G' ∧ G'.ρ s.h.next = some r ∧ SR F w0 N G' lam ⟨s.t, s.loc, ⟨s.h.objs, s.h.next + 1⟩⟩ a w ∧ (∀ b q, G'.M b q = G.M b q) := by
 have hfr := hs.inv.fresh s.h.next (Nat.le_refl _)
 have hle : G.le ⟨G.M, upd G.ρ s.h.next (some r)⟩ := ⟨fun _ _ _ h => h, fun id r' h => by
  by_cases e : id = s.h.next
  ·rw [e, hfr] at h; cases h
  ·show upd G.ρ s.h.next (some r) id = some r'
   rw [upd_ne _ _ e]; exact h⟩
 have live : ∀ id ob, s.h.objs id = some ob → id ≠ s.h.next := fun id ob h e => by
  obtain ⟨r', h1, _⟩ := hs.inv.obj id ob h
  rw [e, hfr] at h1; cases h1
 have back : ∀ id ob r', s.h.objs id = some ob → upd G.ρ s.h.next (some r) id = some r' → G.ρ id = some r' := fun id ob r' h h' => by
  rw [upd_ne _ _ (live id ob h)] at h'; exact h'
 refine ⟨⟨G.M, upd G.ρ s.h.next (some r)⟩, hle, upd_eq _ _ _, ⟨⟨hs.inv.imm, fun id ob h => ?_, fun id h => ?_, fun i j x y r1 r2 h1 h2 h3 h4 => hs.inv.sep i j x y r1 r2 h1 h2 (back i x r1 h1 h3) (back j y r2 h2 h4)⟩,
  fun b o hb => ⟨(hs.frame b o hb).1, fun i ob r' h1 h2 => (hs.frame b o hb).2.1 i ob r' h1 (back i ob r' h1 h2), (hs.frame b o hb).2.2⟩,
  ⟨fun sl ver cells hc => let ⟨B, cs, ty, h1, h2, h3⟩ := hs.locs.val sl ver cells hc; ⟨B, cs, ty, h1, h2, h3.mono hle⟩, hs.locs.conv, hs.locs.imm, fun sl ver B i ob r' h1 h2 h3 => hs.locs.apart sl ver B i ob r' h1 h2 (back i ob r' h2 h3), hs.locs.inj, hs.locs.frame⟩,
  fun t => (hs.tmp t).mono hle (.refl lam), hs.size, hs.defers, hs.same⟩, fun _ _ => rfl⟩
 ·obtain ⟨r', h1, h2⟩ := hs.inv.obj id ob h
  exact ⟨r', hle.r _ _ h1, h2.ghost hle (fun _ h => h)⟩
 ·show upd G.ρ s.h.next (some r) id = none
  have h : s.h.next + 1 ≤ id := h
  rw [upd_ne _ _ (by omega)]
  exact hs.inv.fresh id (by omega)
theorem SR.forget (hs : SR F w0 N G lam s a w) {t' : Nat → V} (ht : ∀ i, t' i = s.t i ∨ t' i = .undef) : SR F w0 N G lam ⟨t', s.loc, s.h⟩ a w :=
 ⟨hs.inv, hs.frame, hs.locs, fun i => by
  show RT G lam (t' i) _
  rcases ht i with h | h
  ·rw [h]; exact hs.tmp i
  ·rw [h]; exact RT.to (.undef _), hs.size, hs.defers, hs.same⟩
theorem runOps_append {l m : List AOp} {s s' : St} (h : runOps call (l ++ m) s = some s') : ∃ s1, runOps call l s = some s1 ∧ runOps call m s1 = some s' := by
 induction l generalizing s with
 | nil => exact ⟨s, rfl, h⟩
 | cons o l ih =>
  simp only [List.cons_append, runOps] at h ⊢
  split at h
  ·rename_i s1 h1
   exact ih h
  ·cases h
theorem noCall_ok : CallOK P (fun _ _ _ => none) := fun _ _ _ _ _ h => by cases h

def keyN (e : MapEntry) : Int :=
 match e.key with
 | .int _ n => n
 | _ => 0
theorem leftOf_push {es : Array MapEntry} {seen : Array Nat} {e : MapEntry} : (leftOf es (seen.push e.born)).toList = (leftOf es seen).toList.filter (fun x => !(x.born == e.born)) := by
 unfold leftOf
 simp only [Array.toList_filter, List.filter_filter]
 congr 1
 funext x
 rw [contains_push]
 cases seen.contains x.born <;> cases (x.born == e.born) <;> rfl
theorem perm_filter_born : ∀ {l : List MapEntry} {e : MapEntry}, (l.map (·.born)).Nodup → e ∈ l → l.Perm (e :: l.filter (fun x => !(x.born == e.born)))
 | [], e, _, he => by cases he
 | x :: l, e, hn, he => by
  simp only [List.map_cons, List.nodup_cons] at hn
  rcases List.mem_cons.1 he with rfl | he
  ·have hall : l.filter (fun y => !(y.born == e.born)) = l := List.filter_eq_self.2 (fun y hy => by
    have : y.born ≠ e.born := fun h => hn.1 (by rw [← h]; exact List.mem_map.2 ⟨y, hy, rfl⟩)
    simpa using this)
   simp [List.filter_cons, hall]
  ·have hne : x.born ≠ e.born := fun h => hn.1 (by rw [h]; exact List.mem_map.2 ⟨e, he, rfl⟩)
   simp only [List.filter_cons]
   rw [if_pos (by simpa using hne)]
   exact ((perm_filter_born hn.2 he).cons x).trans (List.Perm.swap _ _ _)
theorem Enum.perm {f : Int → Option V} {l m : List Int} (h : Enum f l) (hp : l.Perm m) : Enum f m := ⟨hp.nodup_iff.1 h.1, fun n => by rw [← hp.mem_iff]; exact h.2 n⟩
theorem Enum.start {k : IntKind} {f : Int → Option V} {es : Array MapEntry} (h : MapR G k f es) : Enum f (es.toList.map keyN) := by
 obtain ⟨h1, h2, h3, h4⟩ := h
 have hk : ∀ e ∈ es.toList, e.key = .int k (keyN e) := fun e he => by
  obtain ⟨n, hn⟩ := h1 e he
  unfold keyN
  rw [hn]
 refine ⟨?_, fun n => ⟨fun hn => ?_, fun hn => ?_⟩⟩
 ·have e1 : es.toList.map (·.key) = (es.toList.map keyN).map (fun n => Value.int k n) := by
   rw [List.map_map]
   exact List.map_congr_left (fun e he => hk e he)
  rw [e1] at h2
  exact List.Pairwise.of_map (f := fun n => Value.int k n) (fun a b hab e => hab (by rw [e])) h2
 ·obtain ⟨e, he, rfl⟩ := List.mem_map.1 hn
  intro hf
  exact h4 _ hf e he (hk e he)
 ·cases hf : f n with
  | none => exact absurd hf hn
  | some v =>
   obtain ⟨e, he, hke, _⟩ := h3 n v hf
   refine List.mem_map.2 ⟨e, he, ?_⟩
   unfold keyN
   rw [hke]
theorem key_inj : ∀ {l : List MapEntry}, (l.map (·.key)).Nodup → ∀ {x y : MapEntry}, x ∈ l → y ∈ l → x.key = y.key → x = y
 | [], _, _, _, hx, _, _ => by cases hx
 | z :: l, hn, x, y, hx, hy, h => by
  simp only [List.map_cons, List.nodup_cons] at hn
  rcases List.mem_cons.1 hx with e1 | hx'
  ·rcases List.mem_cons.1 hy with e2 | hy'
   ·rw [e1, e2]
   ·exact absurd (List.mem_map.2 ⟨y, hy', by rw [← h, e1]⟩) hn.1
  ·rcases List.mem_cons.1 hy with e2 | hy'
   ·exact absurd (List.mem_map.2 ⟨x, hx', by rw [h, e2]⟩) hn.1
   ·exact key_inj hn.2 hx' hy' h
theorem MapR.entry {k : IntKind} {f : Int → Option V} {es : Array MapEntry} (h : MapR G k f es) {e : MapEntry} (he : e ∈ es.toList) : e.key = .int k (keyN e) ∧ ∃ v, f (keyN e) = some v ∧ R G v e.val := by
 obtain ⟨h1, h2, h3, h4⟩ := h
 obtain ⟨n, hn⟩ := h1 e he
 have hk : keyN e = n := by unfold keyN; rw [hn]
 rw [hk]
 refine ⟨hn, ?_⟩
 cases hf : f n with
 | none => exact absurd hn (h4 n hf e he)
 | some v =>
  obtain ⟨e', he', hke, hR⟩ := h3 n v hf
  have : e' = e := key_inj h2 he' he (by rw [hke, hn])
  subst this
  exact ⟨v, rfl, hR⟩

end
end Go.LS

/- Ranging over a map: the check of the code, and that it is sound. -/
namespace Go.LS
open Go.ChangeMaps (setBlock)

section
variable {P : Program} {N : Nat} {call : CallT} {F : Nat → Option Obj} {w0 : World} {G : Ghost} {lam : Lam} {s : St} {a : Act} {w : World}
def isRange (P : Program) (N : Nat) (co : Oper) (m : Opd) (dIt : Nat) : Bool :=
 co.guard.isNone && co.dst == some dIt && decide (dIt < N) && match co.op with
  | .range t x => okOpd x m && (mapE P t).isSome
  | _ => false
def isNext (N : Nat) (co : Oper) (dIt dNx : Nat) : Bool :=
 co.guard.isNone && co.dst == some dNx && decide (dNx < N) && match co.op with
  | .next (.tmp t) false => t == dIt
  | _ => false
def isEntry (N : Nat) (co : Oper) (dIt dEn : Nat) : Bool :=
 co.guard.isNone && co.dst == some dEn && decide (dEn < N) && match co.op with
  | .entry (.tmp t) => t == dIt
  | _ => false
def chkM (P : Program) (N : Nat) (pre : Array Oper) (b0 : Nat) (L : Code) (pre' : List AOp) (m : Opd) (dIt dNx dOk dEn : Nat) (body : List AOp) : Bool :=
 match L with
 | .seq (.region _ nx false) (.seq (.cond (.tmp c) .skip (.exit b1)) (.block _ (.seq (.region _ en false) (.region _ bo false)))) =>
  (match pre[pre.size - 1]? with | some co => isRange P N co m dIt | none => false) && chkTo P N pre 0 pre' (pre.size - 1) &&
  (match nx[0]? with | some co => isNext N co dIt dNx | none => false) && chkTo P N nx 1 [⟨some dOk, none, .ext (.t dNx) 0, none⟩] nx.size && c == dOk && b1 == b0 && (dIt != dNx && dIt != dOk) &&
  (match en[0]? with | some co => isEntry N co dIt dEn | none => false) && chkTo P N en 1 (body.take (en.size - 1)) en.size && chkTo P N bo 0 (body.drop (en.size - 1)) bo.size
 | _ => false
theorem isRange_spec {co : Oper} {m : Opd} {dIt : Nat} (h : isRange P N co m dIt = true) : co.guard = none ∧ co.dst = some dIt ∧ dIt < N ∧ ∃ t x kt et k, co.op = .range t x ∧ okOpd x m = true ∧ P.underlying t = some (.map kt et) ∧ P.underlying kt = some (.int k) := by
 unfold isRange at h
 simp only [Bool.and_eq_true, beq_iff_eq, decide_eq_true_eq, Option.isNone_iff_eq_none] at h
 obtain ⟨⟨⟨h1, h2⟩, h3⟩, h4⟩ := h
 split at h4
 ·rename_i t x ho
  simp only [Bool.and_eq_true, Option.isSome_iff_exists] at h4
  obtain ⟨h4, ⟨k, et⟩, h5⟩ := h4
  obtain ⟨kt, h6, h7⟩ := mapE_spec h5
  exact ⟨h1, h2, h3, t, x, kt, et, k, ho, h4, h6, h7⟩
 ·cases h4
theorem isNext_spec {co : Oper} {dIt dNx : Nat} (h : isNext N co dIt dNx = true) : co.guard = none ∧ co.dst = some dNx ∧ dNx < N ∧ co.op = .next (.tmp dIt) false := by
 unfold isNext at h
 simp only [Bool.and_eq_true, beq_iff_eq, decide_eq_true_eq, Option.isNone_iff_eq_none] at h
 obtain ⟨⟨⟨h1, h2⟩, h3⟩, h4⟩ := h
 split at h4
 ·rename_i t ho
  simp only [beq_iff_eq] at h4
  subst h4
  exact ⟨h1, h2, h3, ho⟩
 ·cases h4
theorem isEntry_spec {co : Oper} {dIt dEn : Nat} (h : isEntry N co dIt dEn = true) : co.guard = none ∧ co.dst = some dEn ∧ dEn < N ∧ co.op = .entry (.tmp dIt) := by
 unfold isEntry at h
 simp only [Bool.and_eq_true, beq_iff_eq, decide_eq_true_eq, Option.isNone_iff_eq_none] at h
 obtain ⟨⟨⟨h1, h2⟩, h3⟩, h4⟩ := h
 split at h4
 ·rename_i t ho
  simp only [beq_iff_eq] at h4
  subst h4
  exact ⟨h1, h2, h3, ho⟩
 ·cases h4
noncomputable def frameM (F : Nat → Option Obj) (bm It : Nat) (es : Array MapEntry) (clock c0 : Nat) (seen : Array Nat) : Nat → Option Obj :=
 upd (upd F bm (some (.map es clock))) It (some (.mapIter (some bm) clock seen c0))
structure RoundM (P : Program) (F : Nat → Option Obj) (w0 : World) (N : Nat) (G0 : Ghost) (lam0 : Lam) (id : Nat) (k : IntKind) (f : Int → Option V) (it dIt dNx dOk dEn : Nat) (body : List AOp) (s0 s2 : St) (bm It : Nat) (es : Array MapEntry) (clock : Nat)
  (G : Ghost) (lam : Lam) (s : St) (vis : List Int) (c0 : Nat) (seen : Array Nat) (a : Act) (w : World) : Prop where
 hG : G0.le G
 hl : Lam.le lam0 lam
 hs : SR (frameM F bm It es clock c0 seen) w0 N G lam s a w
 hr : ∀ rest, Enum f (vis ++ rest) → rangeRun id k f it dIt dNx dOk dEn body s0 rest s = some s2
 he : Enum f (vis ++ (leftOf es seen).toList.map keyN)
 hc : clock ≤ c0
noncomputable def leftN (bm It : Nat) (w : World) : Nat :=
 match w.heap[bm]?, w.heap[It]? with
 | some (.map es _), some (.mapIter _ _ seen _) => (leftOf es seen).size
 | _, _ => 0
theorem rangeRun_it {id : Nat} {k : IntKind} {f : Int → Option V} {it dIt dNx dOk dEn : Nat} {body : List AOp} {s0 s2 : St} {rest : List Int} {s : St} (h : rangeRun id k f it dIt dNx dOk dEn body s0 rest s = some s2) : s.t dIt = .obj it 0 := by
 cases rest with
 | nil =>
  simp only [rangeRun] at h
  split at h
  ·rename_i h1; exact h1.1
  ·cases h
 | cons n rest =>
  simp only [rangeRun] at h
  split at h
  ·assumption
  ·cases h
theorem range_sound (hc : CallOK P call) {N0 : Nat} (hN : N0 ≤ N) {id0 b0 : Nat} {pre : Array Oper} {L : Code} {pre' : List AOp} {m : Opd} {dIt dNx dOk dEn : Nat} {body : List AOp} (hchk : chkM P N0 pre b0 L pre' m dIt dNx dOk dEn body = true)
  (hs : SR F w0 N G lam s a w) {s1 s2 : St} (h1 : runOps call pre' s = some s1) {id : Nat} (hm : s1.ev m = .map (some id)) {k : IntKind} {f : Int → Option V} (hob : s1.h.objs id = some (.map k f)) (h2 : rangeAny id k f dIt dNx dOk dEn body s1 = some s2)
  {Q : Exit → Act → World → Prop} (hQ : ∀ G' lam' a' w', G.le G' → Lam.le lam lam' → SR F w0 N G' lam' s2 a' w' → Q .normal a' w') :
  (Code.seq (.region id0 pre false) (.block b0 (.loop L))).wp P Q a w := by
 unfold chkM at hchk
 split at hchk
 ·rename_i i1 nx c b1 i2 i3 en i4 bo
  simp only [Bool.and_eq_true, beq_iff_eq] at hchk
  obtain ⟨⟨⟨⟨⟨⟨⟨⟨⟨c1, c2⟩, c3⟩, c4⟩, rfl⟩, rfl⟩, c10, c11⟩, c7⟩, c8⟩, c9⟩ := hchk
  have c10 : dIt ≠ dNx := by simpa using c10
  have c11 : dIt ≠ c := by simpa using c11
  split at c1
  case h_2 => cases c1
  rename_i cr hcr
  split at c3
  case h_2 => cases c3
  rename_i cn hcn
  split at c7
  case h_2 => cases c7
  rename_i ce hce
  obtain ⟨r1, r2, r3, t, x, kt, et, k', r4, r5, r6, r7⟩ := isRange_spec c1
  obtain ⟨n1, n2, n3, n4⟩ := isNext_spec c3
  obtain ⟨e1, e2, e3, e4⟩ := isEntry_spec c7
  have hpre : 0 < pre.size := by have := (Array.getElem?_eq_some_iff.1 hcr).1; omega
  have hnx : 0 < nx.size := (Array.getElem?_eq_some_iff.1 hcn).1
  have hen : 0 < en.size := (Array.getElem?_eq_some_iff.1 hce).1
  refine wp_seq (wp_region ?_)
  have hl : List.range pre.size = List.range' 0 (pre.size - 1 - 0) ++ [pre.size - 1] := by
   rw [List.range_eq_range', show pre.size = (pre.size - 1) + 1 by omega, List.range'_concat]
   simp
  rw [hl]
  refine opsTo_sound hc hN pre' 0 G lam s a w c2 hs h1 (fun G1 lam1 a1 w1 hG1 hl1 hs1 => ?_)
  rw [wpOps_cons]
  -- the map
  have hx := hs1.ev r5
  rw [hm] at hx
  obtain ⟨rm, hxm, hrm⟩ := R.map_inv (RT.of hx rfl)
  obtain ⟨rm', hrm', es, clock, hb, hmr, hst, hM⟩ := hs1.inv.obj id _ hob
  rw [hrm] at hrm'
  injection hrm' with hrm'
  subst hrm'
  refine wpOp_value hcr r1 (w' := w1.alloc (.mapIter (some rm.b) clock #[] clock)) (cv := .pointer (some ⟨w1.heap.size, 0, none⟩)) (by
   simp [execOp, r4, hxm, run_range_map w1 t kt et rm.b es clock r6 hb]) ?_
  rw [r2]
  -- ahead of the rounds
  have hbl : rm.b < w1.heap.size := (Array.getElem?_eq_some_iff.1 hb).1
  have q1 := (hs1.ext (Ext.alloc w1 (.mapIter (some rm.b) clock #[] clock))).kill id
  obtain ⟨G2, hG2, hρ, q2, hM2⟩ := q1.named ⟨w1.heap.size, 0, 0⟩
  have hIt : (w1.alloc (.mapIter (some rm.b) clock #[] clock)).heap[w1.heap.size]? = some (.mapIter (some rm.b) clock #[] clock) := heap_alloc_new _ _
  have hbm : (w1.alloc (.mapIter (some rm.b) clock #[] clock)).heap[rm.b]? = some (.map es clock) := (MapKept.heap_alloc w1 _).2 _ hbl ▸ hb
  have killed : ∀ id' ob, (s1.h.kill id).objs id' = some ob → s1.h.objs id' = some ob ∧ id' ≠ id := fun id' ob h => by
   simp only [Heap.kill] at h
   by_cases e : id' = id
   ·rw [e, upd_eq] at h; cases h
   ·rw [upd_ne _ _ e] at h; exact ⟨h, e⟩
  have ρ2 : ∀ id' ob r, s1.h.objs id' = some ob → G2.ρ id' = some r → G1.ρ id' = some r := fun id' ob r h h' => by
   obtain ⟨r', h3, _⟩ := hs1.inv.obj id' ob h
   have := hG2.r _ _ h3
   rw [h'] at this
   injection this with this
   rw [this]; exact h3
  have q3 := q2.fence hbm (fun id' ob r h h' e => by
    obtain ⟨h3, h4⟩ := killed id' ob h
    exact h4 (hs1.inv.sep id' id ob _ r rm h3 hob (ρ2 _ _ _ h3 h') hrm e)) (fun q => by rw [hM2]; exact hM q)
   (fun sl ver B hb' e => hs1.locs.apart sl ver B id _ rm hb' hob hrm e.symm)
  have q4 := q3.fence hIt (fun id' ob r h h' e => by
    obtain ⟨h3, h4⟩ := killed id' ob h
    obtain ⟨r', h5, h6⟩ := hs1.inv.obj id' ob h3
    have := ρ2 _ _ _ h3 h'
    rw [h5] at this
    injection this with this
    subst this
    have := h6.there
    omega) (fun q => by
    rw [hM2]
    cases hq : G1.M w1.heap.size q with
    | none => rfl
    | some c => have := hs1.inv.there hq; omega)
   (fun sl ver B hb' e => by have := hs1.locs.there hb'; omega)
  have hFIt : F w1.heap.size = none := by
   cases hq : F w1.heap.size with
   | none => rfl
   | some o => have := (Array.getElem?_eq_some_iff.1 (hs1.frame _ _ hq).1).1; omega
  have hFbm : F rm.b = none := by
   cases hq : F rm.b with
   | none => rfl
   | some o => exact absurd rfl ((hs1.frame _ _ hq).2.1 id _ rm hob hrm)
  have hdI : dstOK N (some dIt) = true := by simp only [dstOK, decide_eq_true_eq]; omega
  have q5 : SR (frameM F rm.b w1.heap.size es clock clock #[]) w0 N G2 lam1 (rangeSt id dIt s1) (a1.put (some dIt) (.pointer (some ⟨w1.heap.size, 0, none⟩))) (w1.alloc (.mapIter (some rm.b) clock #[] clock)) := by
   have := q4.put (.refl G2) (.refl lam1) q4.inv q4.frame q4.locs q4.same hdI (v := .obj s1.h.next 0) (cv := .pointer (some ⟨w1.heap.size, 0, none⟩)) (RT.to (by
    have := R.obj (G := G2) (off := 0) hρ
    simpa [Heap.kill] using this))
   exact this
  clear q4 q3 q2 q1
  unfold rangeAny at h2
  split at h2
  case isFalse => cases h2
  rename_i hall
  injection h2 with h2
  have hspec := Classical.choose_spec hall.2
  rw [h2] at hspec
  generalize hs0 : rangeSt id dIt s1 = s0 at q5 hspec
  have hmr2 := hmr.mono hG2
  have hρid : G2.ρ id = some rm := hG2.r _ _ hrm
  show (Code.block b1 (.loop _)).wp P Q _ _
  have h0 : RoundM P F w0 N G2 lam1 id k f s1.h.next dIt dNx c dEn body s0 s2 rm.b w1.heap.size es clock G2 lam1 s0 [] clock #[] (a1.put (some dIt) (.pointer (some ⟨w1.heap.size, 0, none⟩))) (w1.alloc (.mapIter (some rm.b) clock #[] clock)) :=
   ⟨.refl G2, .refl lam1, q5, fun rest hr => hspec rest (by simpa using hr), by
    have : (leftOf es #[]).toList = es.toList := by simp [leftOf]
    rw [this]
    simpa using Enum.start hmr2, Nat.le_refl _⟩
  have hne : rm.b ≠ w1.heap.size := by omega
  have q5' := q5
  revert h0 q5'
  generalize (a1.put (some dIt) (.pointer (some ⟨w1.heap.size, 0, none⟩))) = aa
  generalize (w1.alloc (.mapIter (some rm.b) clock #[] clock)) = ww
  intro h0 q5'
  refine wp_block (wp_loop (fun a w => ∃ G lam s vis c0 seen, RoundM P F w0 N G2 lam1 id k f s1.h.next dIt dNx c dEn body s0 s2 rm.b w1.heap.size es clock G lam s vis c0 seen a w) (fun _ w => leftN rm.b w1.heap.size w) ⟨G2, lam1, s0, [], clock, #[], h0⟩ ?_)
  clear h0
  rintro a3 w3 ⟨G3, lam3, s3, vis, c0, seen, hR⟩
  obtain ⟨hG3, hl3, hs3, hr3, he3, hc3⟩ := hR
  -- the iterator
  have hit3 := rangeRun_it (hr3 _ he3)
  have hρ3 : G3.ρ s1.h.next = some ⟨w1.heap.size, 0, 0⟩ := hG3.r _ _ hρ
  have hev : a3.tmps.getD dIt undef = .pointer (some ⟨w1.heap.size, 0, none⟩) := by
   have := hs3.tmp dIt
   rw [hit3] at this
   have this : R G3 (.obj s1.h.next 0) _ := this
   cases hcv : a3.tmps.getD dIt undef <;> rw [hcv] at this <;> cases this
   rename_i r hr
   rw [hρ3] at hr
   injection hr with hr
   subst hr
   rfl
  have hfi := (hs3.frame w1.heap.size (.mapIter (some rm.b) clock seen c0) (by unfold frameM; rw [upd_eq]))
  have hfm := (hs3.frame rm.b (.map es clock) (by unfold frameM; rw [upd_ne _ _ hne, upd_eq]))
  refine wp_seq (wp_region ?_)
  have hl2 : List.range nx.size = 0 :: (List.range' 1 (nx.size - 1) ++ []) := by
   rw [List.range_eq_range', show nx.size = (nx.size - 1) + 1 by omega, List.range'_succ]
   simp
  rw [hl2, wpOps_cons]
  have hdN : dstOK N (some dNx) = true := by simp only [dstOK, decide_eq_true_eq]; omega
  have hdE : dstOK N (some dEn) = true := by simp only [dstOK, decide_eq_true_eq]; omega
  have hev' : a3.eval (.tmp dIt) = .pointer (some ⟨w1.heap.size, 0, none⟩) := hev
  rcases run_next_at (P := P) w3 cn.type w1.heap.size rm.b clock c0 seen es clock hfi.1 hfm.1 (fun x hx => hst.1 x hx) hc3 with ⟨hz, hrun⟩ | ⟨e, hem, w4, hw4, hrun⟩
  ·-- nothing is left
   refine wpOp_value hcn n1 (w' := w3) (cv := .tuple #[.bool false]) (by simp [execOp, n4, hev', hrun]) ?_
   rw [n2]
   have p1 := hs3.put (.refl G3) (.refl lam3) hs3.inv hs3.frame hs3.locs hs3.same hdN (v := .tup [.bool false]) (cv := .tuple #[.bool false]) (RT.to (.tup rfl (fun j x hx => by
    cases j with
    | zero => simp at hx; subst hx; exact .bool false
    | succ j => simp at hx)))
   refine opsTo_sound noCall_ok hN _ 1 G3 lam3 _ _ w3 c4 p1 (s' := ⟨upd (upd s3.t dNx (.tup [.bool false])) c (.bool false), s3.loc, s3.h⟩) (by simp [runOps, stepO, AOp.wanted, evalO, evalK, St.ev, St.put, upd]) (fun G4 lam4 a4 w4 hG4 hl4 p2 => ?_)
   have hcf : a4.eval (.tmp c) = .bool false := by
    have := p2.tmp c
    simp only [upd_eq] at this
    exact this.bool_
   show (Code.seq (.cond (.tmp c) .skip (.exit b1)) _).wp P _ a4 w4
   refine wp_seq (wp_cond_false hcf (wp_exit ?_))
   simp only [Exit.then, Exit.inBlock, if_true]
   have hnil : (leftOf es seen).toList = [] := by rw [Array.eq_empty_of_size_eq_zero hz]
   rw [hnil] at he3
   have hfin := hr3 [] (by simpa using he3)
   simp only [rangeRun] at hfin
   split at hfin
   case isFalse => cases hfin
   rename_i hcond
   obtain ⟨k1, k2, k3⟩ := hcond
   injection hfin with hfin
   subst hfin
   have hG4' := hG3.trans hG4
   have hl4' := Lam.le.trans hl3 hl4
   have conv0 : ∀ sl cv B, lam1 sl = some (cv, B) → ∃ cells, s0.loc sl = some (cv, cells) := fun sl cv B h => q5'.locs.conv sl cv B h
   have hrm4 : G4.ρ id = some rm := hG4'.r _ _ hρid
   have fm4 := p2.frame rm.b (.map es clock) (by unfold frameM; rw [upd_ne _ _ hne, upd_eq])
   have hFr : ∀ b o, F b = some o → frameM F rm.b w1.heap.size es clock c0 seen b = some o ∧ b ≠ rm.b := fun b o hb' => by
    have h5 : b ≠ rm.b := fun e => by rw [e, hFbm] at hb'; cases hb'
    have h6 : b ≠ w1.heap.size := fun e => by rw [e, hFIt] at hb'; cases hb'
    exact ⟨by unfold frameM; rw [upd_ne _ _ h6, upd_ne _ _ h5]; exact hb', h5⟩
   have hFl : ∀ B, frameM F rm.b w1.heap.size es clock c0 seen B = none → F B = none ∧ B ≠ rm.b := fun B hB => by
    refine ⟨?_, fun e => ?_⟩
    ·cases hq : F B with
     | none => rfl
     | some o => rw [(hFr B o hq).1] at hB; cases hB
    ·rw [e] at hB
     unfold frameM at hB
     rw [upd_ne _ _ hne, upd_eq] at hB
     cases hB
   have objs4 : ∀ id' ob, (s3.h.set id (.map k f)).objs id' = some ob → (id' = id ∧ ob = .map k f) ∨ (id' ≠ id ∧ s3.h.objs id' = some ob) := fun id' ob h => by
    simp only [Heap.set] at h
    by_cases e : id' = id
    ·rw [e, upd_eq] at h; injection h with h; exact .inl ⟨e, h.symm⟩
    ·rw [upd_ne _ _ e] at h; exact .inr ⟨e, h⟩
   refine hQ G4 (fun sl => if (s0.loc sl).isSome = true then lam4 sl else none) a4 w4 (hG1.trans (hG2.trans hG4')) (Lam.le.trans hl1 ?_) ⟨⟨p2.inv.imm, ?_, p2.inv.fresh, ?_⟩, ?_, ⟨?_, ?_, ?_, ?_, ?_, ?_⟩, ?_, p2.size, p2.defers, p2.same⟩
   ·intro sl v B h
    obtain ⟨cells, h5⟩ := conv0 sl v B h
    obtain ⟨v', B', h6, h7⟩ := hl4' sl v B h
    refine ⟨v', B', ?_, h7⟩
    show (if (s0.loc sl).isSome = true then lam4 sl else none) = _
    rw [h5]; exact h6
   ·intro id' ob h
    rcases objs4 id' ob h with ⟨rfl, rfl⟩ | ⟨h5, h6⟩
    ·exact ⟨rm, hrm4, es, clock, fm4.1, (hmr2.mono hG4'), hst, fm4.2.2⟩
    ·exact p2.inv.obj id' ob h6
   ·intro i j x y r r' h5 h6 h7 h8 h9
    rcases objs4 i x h5 with ⟨rfl, rfl⟩ | ⟨h10, h11⟩
    ·rcases objs4 j y h6 with ⟨rfl, rfl⟩ | ⟨h12, h13⟩
     ·rfl
     ·rw [hrm4] at h7
      injection h7 with h7
      subst h7
      exact absurd h9.symm (fm4.2.1 j y r' h13 h8)
    ·rcases objs4 j y h6 with ⟨rfl, rfl⟩ | ⟨h12, h13⟩
     ·rw [hrm4] at h8
      injection h8 with h8
      subst h8
      exact absurd h9 (fm4.2.1 i x r h11 h7)
     ·exact p2.inv.sep i j x y r r' h11 h13 h7 h8 h9
   ·intro b o hb'
    obtain ⟨h5, h6⟩ := hFr b o hb'
    obtain ⟨h7, h8, h9⟩ := p2.frame b o h5
    refine ⟨h7, fun id' ob r h10 h11 => ?_, h9⟩
    rcases objs4 id' ob h10 with ⟨rfl, rfl⟩ | ⟨h12, h13⟩
    ·rw [hrm4] at h11
     injection h11 with h11
     subst h11
     exact Ne.symm h6
    ·exact h8 id' ob r h13 h11
   ·intro sl ver cells h
    have h : s0.loc sl = some (ver, cells) := h
    obtain ⟨B, cs, ty, h5, h6, h7⟩ := p2.locs.val sl ver cells (k3 sl _ h)
    refine ⟨B, cs, ty, ?_, h6, h7⟩
    show (if (s0.loc sl).isSome = true then lam4 sl else none) = _
    rw [h]; exact h5
   ·intro sl ver B h
    have h : (if (s0.loc sl).isSome = true then lam4 sl else none) = some (ver, B) := h
    split at h
    ·rename_i h5
     obtain ⟨c5, h6⟩ := Option.isSome_iff_exists.1 h5
     obtain ⟨cells, h7⟩ := p2.locs.conv sl ver B h
     have h8 := k3 sl _ h6
     have h7 : s3.loc sl = some (ver, cells) := h7
     rw [h7] at h8
     injection h8 with h8
     exact ⟨cells, by rw [h8]; exact h6⟩
    ·cases h
   ·intro sl ver B h o
    have h : (if (s0.loc sl).isSome = true then lam4 sl else none) = some (ver, B) := h
    split at h
    ·exact p2.locs.imm sl ver B h o
    ·cases h
   ·intro sl ver B id' ob r h h5 h6
    have h : (if (s0.loc sl).isSome = true then lam4 sl else none) = some (ver, B) := h
    split at h
    ·rcases objs4 id' ob h5 with ⟨rfl, rfl⟩ | ⟨h7, h8⟩
     ·rw [hrm4] at h6
      injection h6 with h6
      subst h6
      exact Ne.symm (hFl B (p2.locs.frame sl ver B h)).2
     ·exact p2.locs.apart sl ver B id' ob r h h8 h6
    ·cases h
   ·intro sl sl' ver ver' B h h'
    have h : (if (s0.loc sl).isSome = true then lam4 sl else none) = some (ver, B) := h
    have h' : (if (s0.loc sl').isSome = true then lam4 sl' else none) = some (ver', B) := h'
    split at h
    ·split at h'
     ·exact p2.locs.inj sl sl' ver ver' B h h'
     ·cases h'
    ·cases h
   ·intro sl ver B h
    have h : (if (s0.loc sl).isSome = true then lam4 sl else none) = some (ver, B) := h
    split at h
    ·exact (hFl B (p2.locs.frame sl ver B h)).1
    ·cases h
   ·intro i
    show RT G4 _ (if i = c then V.bool false else if deadR dNx c dEn body i = true then .undef else s0.t i) _
    by_cases hi : i = c
    ·rw [if_pos hi]
     have := p2.tmp i
     simp only [hi, upd_eq] at this
     rw [hi]
     exact this
    ·rw [if_neg hi]
     cases hd : deadR dNx c dEn body i with
     | true => exact RT.to (.undef _)
     | false =>
      have hne' : i ≠ dNx := fun e => by
       rw [e] at hd
       simp [deadR] at hd
      have := p2.tmp i
      simp only [upd_ne _ _ hi, upd_ne _ _ hne'] at this
      rw [k2 i hd] at this
      simp only [Bool.false_eq_true, if_false]
      have st := q5'.tmp i
      cases hv : s0.t i with
      | loc sl ver off =>
       rw [hv] at this st
       obtain ⟨cv, B, h5, h6, h7⟩ := this
       obtain ⟨cv0, B0, h8, _⟩ := st
       obtain ⟨cells, h9⟩ := conv0 _ _ _ h8
       exact ⟨cv, B, by show (if (s0.loc sl).isSome = true then lam4 sl else none) = _; rw [h9]; exact h5, h6, h7⟩
      | _ => rw [hv] at this; exact this
  ·-- a key has come
   obtain ⟨hee, hseen⟩ := mem_left hem
   obtain ⟨hkey, v, hfv, hRv⟩ := (hmr2.mono hG3).entry hee
   have hw43 : w4.heap = w3.heap ∧ Same w3 w4 := by rcases hw4 with rfl | rfl <;> exact ⟨rfl, rfl, rfl, rfl, .of fun _ _ h => h⟩
   have hitl : w1.heap.size < w4.heap.size := by rw [hw43.1]; exact (Array.getElem?_eq_some_iff.1 hfi.1).1
   refine wpOp_value hcn n1 (w' := setBlock w4 w1.heap.size (.mapIter (some rm.b) clock (seen.push e.born) clock)) (cv := .tuple #[.bool true, e.key, e.val]) (by simp [execOp, n4, hev', hrun]) ?_
   rw [n2]
   have p0 := hs3.other (b := w1.heap.size) (o := .mapIter (some rm.b) clock seen c0) (o' := .mapIter (some rm.b) clock (seen.push e.born) clock) (w' := setBlock w4 w1.heap.size (.mapIter (some rm.b) clock (seen.push e.born) clock)) (by unfold frameM; rw [upd_eq])
    (fun j hj => by simp [setBlock, Array.getElem?_setIfInBounds_ne (Ne.symm hj), hw43.1]) (by simp [setBlock, hitl]) (by
     obtain ⟨h5, h6, h7, _⟩ := hw43.2
     refine ⟨h5, h6, h7, fun b c1 ty1 fr1 h1 => ⟨c1, ?_, rfl⟩⟩
     by_cases hne : b = w1.heap.size
     ·subst hne; rw [hfi.1] at h1; cases h1
     ·simp [setBlock, Array.getElem?_setIfInBounds_ne (Ne.symm hne), hw43.1, h1])
   have hframe : upd (frameM F rm.b w1.heap.size es clock c0 seen) w1.heap.size (some (.mapIter (some rm.b) clock (seen.push e.born) clock)) = frameM F rm.b w1.heap.size es clock clock (seen.push e.born) := by
    funext b
    unfold frameM upd
    split <;> rfl
   rw [hframe] at p0
   generalize setBlock w4 w1.heap.size (.mapIter (some rm.b) clock (seen.push e.born) clock) = w5 at p0 ⊢
   have p1 := p0.put (.refl G3) (.refl lam3) p0.inv p0.frame p0.locs p0.same hdN (v := .tup [.bool true, .int k (keyN e), v]) (cv := .tuple #[.bool true, e.key, e.val]) (RT.to (.tup rfl (fun j x hx => by
    match j with
    | 0 => simp at hx; subst hx; exact .bool true
    | 1 => simp at hx; subst hx; rw [hkey]; exact .int k _
    | 2 => simp at hx; subst hx; exact hRv
    | j + 3 => simp at hx)))
   refine opsTo_sound noCall_ok hN _ 1 G3 lam3 _ _ w5 c4 p1 (s' := ⟨upd (upd s3.t dNx (.tup [.bool true, .int k (keyN e), v])) c (.bool true), s3.loc, s3.h⟩) (by simp [runOps, stepO, AOp.wanted, evalO, evalK, St.ev, St.put, upd]) (fun G4 lam4 a4 w6 hG4 hl4 p2 => ?_)
   have hct : a4.eval (.tmp c) = .bool true := by
    have := p2.tmp c
    simp only [upd_eq] at this
    exact this.bool_
   show (Code.seq (.cond (.tmp c) .skip (.exit b1)) _).wp P _ a4 w6
   refine wp_seq (wp_cond_true hct (wp_skip ?_))
   show (Code.block _ _).wp P _ a4 w6
   refine wp_block (wp_seq (wp_region ?_))
   have hl3' : List.range en.size = 0 :: (List.range' 1 (en.size - 1) ++ []) := by
    rw [List.range_eq_range', show en.size = (en.size - 1) + 1 by omega, List.range'_succ]
    simp
   rw [hl3', wpOps_cons]
   -- the entry
   have fi6 := p2.frame w1.heap.size (.mapIter (some rm.b) clock (seen.push e.born) clock) (by unfold frameM; rw [upd_eq])
   have fm6 := p2.frame rm.b (.map es clock) (by unfold frameM; rw [upd_ne _ _ hne, upd_eq])
   have hρ4 : G4.ρ s1.h.next = some ⟨w1.heap.size, 0, 0⟩ := hG4.r _ _ hρ3
   have hev4 : a4.eval (.tmp dIt) = .pointer (some ⟨w1.heap.size, 0, none⟩) := by
    have := p2.tmp dIt
    simp only [upd_ne _ _ c11, upd_ne _ _ c10, hit3] at this
    have this : R G4 (.obj s1.h.next 0) _ := this
    show a4.tmps.getD dIt undef = _
    cases hcv : a4.tmps.getD dIt undef <;> rw [hcv] at this <;> cases this
    rename_i r hr
    rw [hρ4] at hr
    injection hr with hr
    subst hr
    rfl
   -- the abstract round
   have hleft : (leftOf es (seen.push e.born)).toList = (leftOf es seen).toList.filter (fun x => !(x.born == e.born)) := leftOf_push
   have hnd : ((leftOf es seen).toList.map (·.born)).Nodup := by
    unfold leftOf
    rw [Array.toList_filter]
    exact (List.filter_sublist.map _).nodup hst.2.1
   have hperm := perm_filter_born hnd hem
   rw [← hleft] at hperm
   have hen2 : Enum f (vis ++ (keyN e :: (leftOf es (seen.push e.born)).toList.map keyN)) := he3.perm (List.Perm.append_left vis (by simpa using hperm.map keyN))
   have hrun2 := hr3 _ hen2
   have hstep : ∃ s7, runOps (fun _ _ _ => none) body { s3 with t := upd (upd (upd s3.t dNx .undef) c (.bool true)) dEn (.tup [.int k (keyN e), v]) } = some s7 := by
    simp only [rangeRun, hit3, if_true, hfv] at hrun2
    split at hrun2
    ·rename_i s7 h7; exact ⟨s7, h7⟩
    ·cases hrun2
   obtain ⟨s7, h7⟩ := hstep
   have hnext : ∀ rest, Enum f ((vis ++ [keyN e]) ++ rest) → rangeRun id k f s1.h.next dIt dNx c dEn body s0 rest s7 = some s2 := fun rest hrest => by
    have := hr3 (keyN e :: rest) (by simpa using hrest)
    simp only [rangeRun, hit3, if_true, hfv, h7] at this
    exact this
   refine wpOp_value hce e1 (w' := w6) (cv := .tuple #[e.key, e.val]) (by simp [execOp, e4, hev4, run_entry_at w6 w1.heap.size rm.b clock seen es clock e fi6.1 fm6.1 hee hst.2.1]) ?_
   rw [e2]
   have p3 := p2.put (.refl G4) (.refl lam4) p2.inv p2.frame p2.locs p2.same hdE (v := .tup [.int k (keyN e), v]) (cv := .tuple #[e.key, e.val]) (RT.to (.tup rfl (fun j x hx => by
    match j with
    | 0 => simp at hx; subst hx; rw [hkey]; exact .int k _
    | 1 => simp at hx; subst hx; exact hRv.mono hG4
    | j + 2 => simp at hx)))
   have p4 := p3.forget (t' := upd (upd (upd s3.t dNx .undef) c (.bool true)) dEn (.tup [.int k (keyN e), v])) (fun i => by
    simp only [St.put, upd]
    by_cases h5 : i = dEn
    ·simp [h5]
    ·simp only [h5, if_false]
     by_cases h6 : i = c
     ·simp [h6]
     ·simp only [h6, if_false]
      by_cases h8 : i = dNx
      ·simp [h8]
      ·simp [h8])
   have h7' := h7
   rw [← List.take_append_drop (en.size - 1) body] at h7'
   obtain ⟨s6, h8, h9⟩ := runOps_append h7'
   refine opsTo_sound noCall_ok hN _ 1 G4 lam4 _ _ w6 c8 p4 h8 (fun G5 lam5 a5 w7 hG5 hl5 p5 => ?_)
   show (Code.region _ bo false).wp P _ a5 w7
   refine wp_region ?_
   have hl4'' : List.range bo.size = List.range' 0 (bo.size - 0) ++ [] := by
    rw [List.range_eq_range']
    simp
   rw [hl4'']
   refine opsTo_sound noCall_ok hN _ 0 G5 lam5 _ _ w7 c9 p5 h9 (fun G6 lam6 a6 w8 hG6 hl6 p6 => ?_)
   have fi8 := p6.frame w1.heap.size (.mapIter (some rm.b) clock (seen.push e.born) clock) (by unfold frameM; rw [upd_eq])
   have fm8 := p6.frame rm.b (.map es clock) (by unfold frameM; rw [upd_ne _ _ hne, upd_eq])
   show (∃ G lam s vis c0 seen, RoundM P F w0 N G2 lam1 id k f s1.h.next dIt dNx c dEn body s0 s2 rm.b w1.heap.size es clock G lam s vis c0 seen a6 w8) ∧ leftN rm.b w1.heap.size w8 < leftN rm.b w1.heap.size w3
   refine ⟨⟨G6, lam6, s7, vis ++ [keyN e], clock, seen.push e.born, hG3.trans (hG4.trans (hG5.trans hG6)), Lam.le.trans hl3 (Lam.le.trans hl4 (Lam.le.trans hl5 hl6)), p6, hnext, by simpa using hen2, Nat.le_refl _⟩, ?_⟩
   unfold leftN
   rw [fm8.1, fi8.1, hfm.1, hfi.1]
   exact left_shrinks es seen e hem
 ·cases hchk

end
end Go.LS
