/- A part of the proof: an abstract machine for the program's code and what each of its functions comes to there. No conditions. -/
import Derived.Test.YtcngflmnbdcppaaGreatP07

set_option linter.unusedSimpArgs false
set_option linter.unusedVariables false

/- The table, function by function: printed by mkcode.py. -/
namespace Go.Proofs.YtcngflmnbdcppaaGreat
open Go.LS

theorem t3 : T 3 = some a3 := (T_of (by decide)).trans z3
theorem t6 : T 6 = some a6 := (T_of (by decide)).trans z6
theorem t8 : T 8 = some a8 := (T_of (by decide)).trans z8
theorem t9 : T 9 = some a9 := (T_of (by decide)).trans z9
theorem t10 : T 10 = some a10 := (T_of (by decide)).trans z10
theorem t11 : T 11 = some a11 := (T_of (by decide)).trans z11
theorem t12 : T 12 = some a12 := (T_of (by decide)).trans z12
theorem t13 : T 13 = some a13 := (T_of (by decide)).trans z13
theorem t14 : T 14 = some a14 := (T_of (by decide)).trans z14
theorem t15 : T 15 = some a15 := (T_of (by decide)).trans z15
theorem t16 : T 16 = some a16 := (T_of (by decide)).trans z16
theorem t18 : T 18 = some a18 := (T_of (by decide)).trans z18
theorem t20 : T 20 = some a20 := (T_of (by decide)).trans z20
theorem t21 : T 21 = some a21 := (T_of (by decide)).trans z21
theorem t22 : T 22 = some a22 := (T_of (by decide)).trans z22
theorem t23 : T 23 = some a23 := (T_of (by decide)).trans z23
theorem t24 : T 24 = some a24 := (T_of (by decide)).trans z24
theorem t25 : T 25 = some a25 := (T_of (by decide)).trans z25
theorem t26 : T 26 = some a26 := (T_of (by decide)).trans z26
theorem t27 : T 27 = some a27 := (T_of (by decide)).trans z27
theorem t29 : T 29 = some a29 := (T_of (by decide)).trans z29
theorem t30 : T 30 = some a30 := (T_of (by decide)).trans z30
theorem t36 : T 36 = some a36 := (T_of (by decide)).trans z36
theorem t37 : T 37 = some a37 := (T_of (by decide)).trans z37
theorem t38 : T 38 = some a38 := (T_of (by decide)).trans z38
theorem t39 : T 39 = some a39 := (T_of (by decide)).trans z39
theorem t50 : T 50 = some a50 := (T_of (by decide)).trans z50
theorem t51 : T 51 = some a51 := (T_of (by decide)).trans z51
theorem t52 : T 52 = some a52 := (T_of (by decide)).trans z52
theorem t53 : T 53 = some a53 := (T_of (by decide)).trans z53
theorem t54 : T 54 = some a54 := (T_of (by decide)).trans z54
theorem t55 : T 55 = some a55 := (T_of (by decide)).trans z55
theorem t56 : T 56 = some a56 := (T_of (by decide)).trans z56
theorem t70 : T 70 = some a70 := (T_of (by decide)).trans z70
theorem t71 : T 71 = some a71 := (T_of (by decide)).trans z71
theorem t72 : T 72 = some a72 := (T_of (by decide)).trans z72
theorem t73 : T 73 = some a73 := (T_of (by decide)).trans z73
theorem t74 : T 74 = some a74 := (T_of (by decide)).trans z74
theorem t75 : T 75 = some a75 := (T_of (by decide)).trans z75
theorem t76 : T 76 = some a76 := (T_of (by decide)).trans z76
theorem t77 : T 77 = some a77 := (T_of (by decide)).trans z77
theorem t78 : T 78 = some a78 := (T_of (by decide)).trans z78
theorem t79 : T 79 = some a79 := (T_of (by decide)).trans z79
theorem t80 : T 80 = some a80 := (T_of (by decide)).trans z80
theorem t81 : T 81 = some a81 := (T_of (by decide)).trans z81
theorem t82 : T 82 = some a82 := (T_of (by decide)).trans z82
theorem t83 : T 83 = some a83 := (T_of (by decide)).trans z83
theorem t84 : T 84 = some a84 := (T_of (by decide)).trans z84
theorem t85 : T 85 = some a85 := (T_of (by decide)).trans z85
theorem t86 : T 86 = some a86 := (T_of (by decide)).trans z86
theorem t87 : T 87 = some a87 := (T_of (by decide)).trans z87
theorem t88 : T 88 = some a88 := (T_of (by decide)).trans z88
theorem t89 : T 89 = some a89 := (T_of (by decide)).trans z89
theorem t90 : T 90 = some a90 := (T_of (by decide)).trans z90
theorem t91 : T 91 = some a91 := (T_of (by decide)).trans z91
theorem t92 : T 92 = some a92 := (T_of (by decide)).trans z92
theorem t93 : T 93 = some a93 := (T_of (by decide)).trans z93
theorem t98 : T 98 = some a98 := (T_of (by decide)).trans z98
theorem t99 : T 99 = some a99 := (T_of (by decide)).trans z99
theorem t100 : T 100 = some a100 := (T_of (by decide)).trans z100
theorem t101 : T 101 = some a101 := (T_of (by decide)).trans z101
theorem t102 : T 102 = some a102 := (T_of (by decide)).trans z102
theorem t103 : T 103 = some a103 := (T_of (by decide)).trans z103
theorem t104 : T 104 = some a104 := (T_of (by decide)).trans z104
theorem t105 : T 105 = some a105 := (T_of (by decide)).trans z105
theorem t106 : T 106 = some a106 := (T_of (by decide)).trans z106
theorem t107 : T 107 = some a107 := (T_of (by decide)).trans z107
theorem t108 : T 108 = some a108 := (T_of (by decide)).trans z108
theorem t109 : T 109 = some a109 := (T_of (by decide)).trans z109
theorem t110 : T 110 = some a110 := (T_of (by decide)).trans z110
theorem t111 : T 111 = some a111 := (T_of (by decide)).trans z111
theorem t112 : T 112 = some a112 := (T_of (by decide)).trans z112
theorem t113 : T 113 = some a113 := (T_of (by decide)).trans z113
theorem t114 : T 114 = some a114 := (T_of (by decide)).trans z114
theorem t115 : T 115 = some a115 := (T_of (by decide)).trans z115
theorem t116 : T 116 = some a116 := (T_of (by decide)).trans z116
theorem t117 : T 117 = some a117 := (T_of (by decide)).trans z117
theorem t119 : T 119 = some a119 := (T_of (by decide)).trans z119
theorem t120 : T 120 = some a120 := (T_of (by decide)).trans z120
theorem t121 : T 121 = some a121 := (T_of (by decide)).trans z121
theorem t122 : T 122 = some a122 := (T_of (by decide)).trans z122
theorem t123 : T 123 = some a123 := (T_of (by decide)).trans z123
theorem t124 : T 124 = some a124 := (T_of (by decide)).trans z124
theorem t125 : T 125 = some a125 := (T_of (by decide)).trans z125
theorem t126 : T 126 = some a126 := (T_of (by decide)).trans z126
theorem t127 : T 127 = some a127 := (T_of (by decide)).trans z127
theorem t128 : T 128 = some a128 := (T_of (by decide)).trans z128
theorem t129 : T 129 = some a129 := (T_of (by decide)).trans z129
theorem t130 : T 130 = some a130 := (T_of (by decide)).trans z130
theorem t131 : T 131 = some a131 := (T_of (by decide)).trans z131
theorem t132 : T 132 = some a132 := (T_of (by decide)).trans z132
theorem t133 : T 133 = some a133 := (T_of (by decide)).trans z133
theorem t134 : T 134 = some a134 := (T_of (by decide)).trans z134
theorem t135 : T 135 = some a135 := (T_of (by decide)).trans z135
theorem t136 : T 136 = some a136 := (T_of (by decide)).trans z136
theorem t138 : T 138 = some a138 := (T_of (by decide)).trans z138
theorem t139 : T 139 = some a139 := (T_of (by decide)).trans z139
theorem t140 : T 140 = some a140 := (T_of (by decide)).trans z140
theorem t141 : T 141 = some a141 := (T_of (by decide)).trans z141
theorem t142 : T 142 = some a142 := (T_of (by decide)).trans z142
theorem t143 : T 143 = some a143 := (T_of (by decide)).trans z143
theorem t144 : T 144 = some a144 := (T_of (by decide)).trans z144
theorem t145 : T 145 = some a145 := (T_of (by decide)).trans z145
theorem t146 : T 146 = some a146 := (T_of (by decide)).trans z146
theorem t147 : T 147 = some a147 := (T_of (by decide)).trans z147
theorem t148 : T 148 = some a148 := (T_of (by decide)).trans z148
theorem t149 : T 149 = some a149 := (T_of (by decide)).trans z149
theorem t150 : T 150 = some a150 := (T_of (by decide)).trans z150
theorem t151 : T 151 = some a151 := (T_of (by decide)).trans z151
theorem t152 : T 152 = some a152 := (T_of (by decide)).trans z152
theorem t153 : T 153 = some a153 := (T_of (by decide)).trans z153
theorem t154 : T 154 = some a154 := (T_of (by decide)).trans z154
theorem t155 : T 155 = some a155 := (T_of (by decide)).trans z155
theorem t156 : T 156 = some a156 := (T_of (by decide)).trans z156
theorem t157 : T 157 = some a157 := (T_of (by decide)).trans z157
theorem t158 : T 158 = some a158 := (T_of (by decide)).trans z158
theorem t159 : T 159 = some a159 := (T_of (by decide)).trans z159
theorem t160 : T 160 = some a160 := (T_of (by decide)).trans z160
theorem t161 : T 161 = some a161 := (T_of (by decide)).trans z161
theorem t162 : T 162 = some a162 := (T_of (by decide)).trans z162
theorem t163 : T 163 = some a163 := (T_of (by decide)).trans z163
theorem t164 : T 164 = some a164 := (T_of (by decide)).trans z164
end Go.Proofs.YtcngflmnbdcppaaGreat

/- Forms: what may be; the same. -/
namespace Go.Proofs.YtcngflmnbdcppaaGreat
open Go.LS Go.IntWalk

def terms (l : List (Int × Int)) : List (List V) := l.map fun p => [.int .i64 p.1, .int .u64 p.2]
theorem terms_get (l m : List (Int × Int)) (v s : Int) : (terms (l ++ (v, s) :: m))[l.length]? = some [.int .i64 v, .int .u64 s] := by
  simp [terms]
@[simp] theorem retag_terms (l : List (Int × Int)) : V.retagLL (terms l) = terms l := by
  rw [V.retagLL_map]; simp [terms]
theorem terms_len (l : List (Int × Int)) : (terms l).length = l.length := by simp [terms]

@[simp] theorem terms_getElem (l : List (Int × Int)) (i : Nat) (h : i < (terms l).length) : (terms l)[i] = [.int .i64 (l[i]'(by simpa [terms] using h)).1, .int .u64 (l[i]'(by simpa [terms] using h)).2] := by
  simp [terms]

/-- A form as a value. -/
def formC (tg : Tag) (l : List (Int × Int)) (off : Int) : List V := [.lst tg (terms l), .int .u64 off]

def mayL : Int → List (Int × Int) → Bool
  | _, [] => true
  | last, (v, s) :: l => if v ≤ last ∨ 1023 < v ∨ s = 0 then false else mayL v l

theorem may_loop (all : List (Int × Int)) (hlen : (all.length : Int) < 2 ^ 62) (rest : List (Int × Int)) : ∀ (done : List (Int × Int)) (hd : all = done ++ rest) (last : Int) (t : Nat → V) (loc : LS.Loc) (h : LS.Heap)
   (tg : Tag) (h7 : t 7 = .lst tg (terms all)) (h8 : t 8 = .int .i64 all.length) (h9 : t 9 = .int .i64 done.length) (h3 : t 3 = .int .i64 last),
   W T (.loop l12_0) ⟨t, loc, h⟩ (fun e s => s.h = h ∧ ((mayL last rest = true ∧ e = .exit 0) ∨ (mayL last rest = false ∧ e = .ret ∧ s.t 2 = .bool false))) := by
  induction rest with
  | nil =>
    intro done hd last t loc h tg h7 h8 h9 h3
    have hlt : ¬ ((done.length : Int) < all.length) := by rw [hd]; simp
    refine W_loop' l12_0.eq_1 ?_
    refine W_seq (W_ops (s1 := ?_) (by simp only [r12_3]; simp [h9, h8, hlt]; exact rfl) ?_)
    exact W_seq (W_cond_f (by simp) (W_exit ⟨rfl, .inl ⟨rfl, rfl⟩⟩))
  | cons p rest ih =>
    obtain ⟨v, s⟩ := p
    intro done hd last t loc h tg h7 h8 h9 h3
    have hlt : ((done.length : Int) < all.length) := by rw [hd]; simp; omega
    have hL : (terms all)[done.length]? = some [.int .i64 v, .int .u64 s] := by rw [hd]; exact terms_get _ _ _ _
    have hw : IntKind.i64.wrap ((done.length : Int) + 1) = ((done ++ [(v, s)]).length : Int) := by rw [i64_in _ (by omega)]; simp
    refine W_loop' l12_0.eq_1 ?_
    refine W_seq (W_ops (s1 := ?_) (by simp only [r12_3]; simp [h9, h8, hlt]; exact rfl) ?_)
    refine W_seq (W_cond_t (by simp) (W_skip ?_))
    refine W_seq (W_block (W_seq (W_ops (s1 := ?_) (by simp only [r12_4]; simp [h9, h7, hL]; exact rfl) ?_)))
    by_cases hc : v ≤ last
    · refine W_seq (W_seq (W_ops (s1 := ?_) (by simp only [r12_5]; simp [h3, hc]; exact rfl) ?_))
      refine W_cond_t (by simp) (W_seq (W_ops (s1 := ?_) (by simp only [r12_6]; simp; exact rfl) (W_ret ?_)))
      simp [mayL, hc]
    by_cases hc2 : 1023 < v
    · refine W_seq (W_seq (W_ops (s1 := ?_) (by simp only [r12_5]; simp [h3, hc, hc2]; exact rfl) ?_))
      refine W_cond_t (by simp) (W_seq (W_ops (s1 := ?_) (by simp only [r12_6]; simp; exact rfl) (W_ret ?_)))
      simp [mayL, hc2]
    by_cases hc3 : s = 0
    · refine W_seq (W_seq (W_ops (s1 := ?_) (by simp only [r12_5]; simp [h3, hc, hc2, hc3]; exact rfl) ?_))
      refine W_cond_t (by simp) (W_seq (W_ops (s1 := ?_) (by simp only [r12_6]; simp; exact rfl) (W_ret ?_)))
      simp [mayL, hc3]
    refine W_seq (W_seq (W_ops (s1 := ?_) (by simp only [r12_5]; simp [h3, hc, hc2, hc3]; exact rfl) ?_))
    refine W_cond_f (by simp) (W_skip ?_)
    refine W_ops (s1 := ?_) (by simp only [r12_7]; simp; exact rfl) ?_
    refine W_ops (s1 := ?_) (by simp only [r12_8]; simp [h9, hw]; exact rfl) ?_
    have hm : mayL last ((v, s) :: rest) = mayL v rest := by simp [mayL, hc, hc2, hc3]
    simp only [hm]
    exact ih (done ++ [(v, s)]) (by simp [hd]) v _ _ h tg (by simp [h7]) (by simp [h8]) (by simp) (by simp)

theorem May_run (tg : Tag) (l : List (Int × Int)) (off : Int) (hlen : (l.length : Int) < 2 ^ 62) (h : LS.Heap) :
    callD T 12 [.agg (formC tg l off)] h = some (.bool (mayL 0 l), h) := by
  refine W_call t12 rfl rfl (by simp) ?_
  show W T c12 _ _
  unfold c12
  refine W_seq (W_ops (s1 := ?_) (by simp only [r12_0]; simp [initT, formC, a12]; exact rfl) ?_)
  refine W_seq (W_ops (s1 := ?_) (by simp only [r12_1]; simp; exact rfl) ?_)
  refine W_seq (W_seq (W_ops (s1 := ?_) (by simp only [r12_2]; simp [terms_len]; exact rfl) ?_))
  refine W_block ((may_loop l hlen l [] rfl 0 _ _ h .ro (by simp) (by simp) (by simp) (by simp)).mono ?_)
  rintro e ⟨t1, loc1, h1⟩ ⟨hh, ⟨hm, rfl⟩ | ⟨hm, rfl, h2⟩⟩
  · refine W_seq (W_ops (s1 := ?_) (by simp only [r12_9]; simp; exact rfl) (W_ret ?_))
    exact ⟨.inr rfl, [.bool true], by simp [a12, resV, resV1], by simp [a12, packV, hm], rfl, by simp only at hh; subst hh; exact .refl _⟩
  · exact ⟨.inr rfl, [.bool false], by simp at h2; simp [a12, resV, resV1, h2], by simp [a12, packV, hm], rfl, by simp only at hh; subst hh; exact .refl _⟩

end Go.Proofs.YtcngflmnbdcppaaGreat

/- Forms: the same, and the document's answers to what may be and what is the same. -/
namespace Go.Proofs.YtcngflmnbdcppaaGreat
open Go.LS Go.IntWalk

theorem terms_at {l : List (Int × Int)} {i : Nat} (h : i < l.length) : (terms l)[i]? = some [.int .i64 l[i].1, .int .u64 l[i].2] := by
  simp [terms, h]

theorem equal_loop (a b : List (Int × Int)) (hab : a.length = b.length) (hlen : (a.length : Int) < 2 ^ 62) : ∀ (k i : Nat) (hk : a.length - i = k) (hi : i ≤ a.length) (t : Nat → V) (loc : LS.Loc) (h : LS.Heap)
    (ta tb : Tag) (h0 : t 0 = .lst ta (terms a)) (h1 : t 1 = .lst tb (terms b)) (h12 : t 12 = .int .i64 a.length) (h13 : t 13 = .int .i64 i),
    W T (.loop l25_0) ⟨t, loc, h⟩ (fun e s => s.h = h ∧ ((a.drop i = b.drop i ∧ e = .exit 0) ∨ (a.drop i ≠ b.drop i ∧ e = .ret ∧ s.t 4 = .bool false)))
  | 0, i, hk, hi, t, loc, h, ta, tb, h0, h1, h12, h13 => by
    have hlt : ¬ ((i : Int) < a.length) := by omega
    refine W_loop' l25_0.eq_1 ?_
    refine W_seq (W_ops (s1 := ?_) (by simp only [r25_4]; simp [h12, h13, hlt]; exact rfl) ?_)
    refine W_seq (W_cond_f (by simp) (W_exit ⟨rfl, .inl ⟨?_, rfl⟩⟩))
    rw [List.drop_eq_nil_of_le (by omega), List.drop_eq_nil_of_le (by omega)]
  | k + 1, i, hk, hi, t, loc, h, ta, tb, h0, h1, h12, h13 => by
    have hia : i < a.length := by omega
    have hib : i < b.length := by omega
    have hlt : ((i : Int) < a.length) := by omega
    have hw : IntKind.i64.wrap ((i : Int) + 1) = ((i + 1 : Nat) : Int) := by rw [i64_in _ (by omega)]; simp
    have ga := terms_at hia
    have gb := terms_at hib
    refine W_loop' l25_0.eq_1 ?_
    refine W_seq (W_ops (s1 := ?_) (by simp only [r25_4]; simp [h12, h13, hlt]; exact rfl) ?_)
    refine W_seq (W_cond_t (by simp) (W_skip ?_))
    refine W_seq (W_block (W_seq (W_ops (s1 := ?_) (by simp only [r25_5]; simp [h13]; exact rfl) ?_)))
    refine W_seq (W_tops (s1 := ?_) (by simp only [r25_6]; simp [h0, h1, ga, gb]; exact rfl) ?_)
    have hd : a.drop i = a[i] :: a.drop (i + 1) := by rw [List.drop_eq_getElem_cons hia]
    have hd2 : b.drop i = b[i] :: b.drop (i + 1) := by rw [List.drop_eq_getElem_cons hib]
    by_cases he : a[i] = b[i]
    · refine W_cond_f (by simp [he]) (W_skip ?_)
      refine W_ops (s1 := ?_) (by simp only [r25_8]; simp [h13, hw]; exact rfl) ?_
      have ih := equal_loop a b hab hlen k (i + 1) (by omega) (by omega)
      refine (ih _ _ h ta tb (by simp [h0]) (by simp [h1]) (by simp [h12]) (by simp)).mono ?_
      rw [hd, hd2, he]
      simp only [List.cons.injEq, true_and, ne_eq]
      exact fun e s h => h
    · have hne : ¬ (a[i].1 = b[i].1 ∧ a[i].2 = b[i].2) := fun h => he (Prod.ext h.1 h.2)
      refine W_cond_t (by simp; exact Decidable.not_and_iff_not_or_not.1 hne) (W_seq (W_ops (s1 := ?_) (by simp only [r25_7]; simp; exact rfl) (W_ret ⟨rfl, .inr ⟨?_, rfl, by simp⟩⟩)))
      rw [hd, hd2]
      intro h
      injection h with h
      exact he h

theorem Equal_run (ta tb : Tag) (a b : List (Int × Int)) (hlen : (a.length : Int) < 2 ^ 62) (hlen2 : (b.length : Int) < 2 ^ 62) (h : LS.Heap) :
    callD T 25 [.lst ta (terms a), .lst tb (terms b)] h = some (.bool (decide (a = b)), h) := by
  refine W_call t25 rfl rfl (by simp) ?_
  show W T c25 _ _
  unfold c25
  refine W_seq (W_ops (s1 := ?_) (by simp only [r25_0]; simp [initT, a25]; exact rfl) ?_)
  by_cases hab : a.length = b.length
  · refine W_seq (W_seq (W_ops (s1 := ?_) (by simp only [r25_1]; simp [terms_len, hab]; exact rfl) ?_))
    refine W_cond_f (by simp) (W_skip ?_)
    refine W_seq (W_seq (W_ops (s1 := ?_) (by simp only [r25_3]; simp [terms_len]; exact rfl) ?_))
    refine W_block ((equal_loop a b hab hlen a.length 0 (by omega) (by omega) _ _ h .ro .ro (by simp) (by simp) (by simp) (by simp)).mono ?_)
    rintro e ⟨t1, loc1, h1⟩ ⟨hh, ⟨hm, rfl⟩ | ⟨hm, rfl, h2⟩⟩
    · refine W_seq (W_ops (s1 := ?_) (by simp only [r25_9]; simp; exact rfl) (W_ret ?_))
      have hm : a = b := by simpa using hm
      exact ⟨.inr rfl, [.bool true], by simp [a25, resV, resV1], by simp [a25, packV, hm], rfl, by simp only at hh; subst hh; exact .refl _⟩
    · have hm : a ≠ b := by simpa using hm
      exact ⟨.inr rfl, [.bool false], by simp at h2; simp [a25, resV, resV1, h2], by simp [a25, packV, hm], rfl, by simp only at hh; subst hh; exact .refl _⟩
  · have hne : a ≠ b := fun h => hab (by rw [h])
    have hne2 : ¬ ((a.length : Int) = b.length) := by omega
    refine W_seq (W_seq (W_ops (s1 := ?_) (by simp only [r25_1]; simp [terms_len, hne2]; exact rfl) ?_))
    refine W_cond_t (by simp [hab]) (W_seq (W_ops (s1 := ?_) (by simp only [r25_2]; simp; exact rfl) (W_ret ?_)))
    exact ⟨.inr rfl, [.bool false], by simp [a25, resV, resV1], by simp [a25, packV, hne], rfl, .refl _⟩

theorem Same_run (ta tb : Tag) (a b : List (Int × Int)) (oa ob : Int) (hlen : (a.length : Int) < 2 ^ 62) (hlen2 : (b.length : Int) < 2 ^ 62) (h : LS.Heap) :
    callD T 14 [.agg (formC ta a oa), .agg (formC tb b ob)] h = some (.bool (decide (oa = ob) && decide (a = b)), h) := by
  refine W_call t14 rfl rfl (by simp) ?_
  show W T c14 _ _
  unfold c14
  have hE := Equal_run .ro .ro a b hlen hlen2 h
  refine W_seq (W_ops (s1 := ?_) (by simp only [r14_0]; simp [formC, a14]; exact rfl) ?_)
  by_cases ho : oa = ob
  · refine W_seq (W_ops (s1 := ?_) (by simp only [r14_1]; simp [ho, hE]; exact rfl) (W_ret ?_))
    exact ⟨.inr rfl, [.bool (decide (a = b))], by simp [a14, resV, resV1], by simp [a14, packV, ho], rfl, .refl _⟩
  · refine W_seq (W_ops (s1 := ?_) (by simp only [r14_1]; simp [ho]; exact rfl) (W_ret ?_))
    exact ⟨.inr rfl, [.bool false], by simp [a14, resV, resV1], by simp [a14, packV, ho], rfl, .refl _⟩

theorem refSame_loop (a b : List (Int × Int)) (oa ob : Int) (hab : a.length = b.length) (hlen : (a.length : Int) < 2 ^ 62) : ∀ (k i : Nat) (hk : a.length - i = k) (hi : i ≤ a.length) (t : Nat → V) (loc : LS.Loc) (h : LS.Heap)
    (h2 : t 2 = .loc 2 0 0) (h3 : t 3 = .loc 3 0 0) (l2 : loc 2 = some (0, [.lst .ro (terms a), .int .u64 oa])) (l3 : loc 3 = some (0, [.lst .ro (terms b), .int .u64 ob])) (h5 : t 5 = .int .i64 i),
    W T (.loop l15_0) ⟨t, loc, h⟩ (fun e s => s.h = h ∧ ((a.drop i = b.drop i ∧ e = .exit 0) ∨ (a.drop i ≠ b.drop i ∧ e = .ret ∧ s.t 4 = .bool false)))
  | 0, i, hk, hi, t, loc, h, h2, h3, l2, l3, h5 => by
    have hlt : ¬ ((i : Int) < a.length) := by omega
    refine W_loop' l15_0.eq_1 ?_
    refine W_seq (W_seq (W_ops (s1 := ?_) (by simp only [r15_4]; simp [h2, l2, h5, terms_len, hlt]; exact rfl) ?_))
    refine W_cond_f (by simp) (W_exit ⟨rfl, .inl ⟨?_, rfl⟩⟩)
    rw [List.drop_eq_nil_of_le (by omega), List.drop_eq_nil_of_le (by omega)]
  | k + 1, i, hk, hi, t, loc, h, h2, h3, l2, l3, h5 => by
    have hia : i < a.length := by omega
    have hib : i < b.length := by omega
    have hlt : ((i : Int) < a.length) := by omega
    have hw : IntKind.i64.wrap ((i : Int) + 1) = ((i + 1 : Nat) : Int) := by rw [i64_in _ (by omega)]; simp
    have ga := terms_at hia
    have gb := terms_at hib
    refine W_loop' l15_0.eq_1 ?_
    refine W_seq (W_seq (W_ops (s1 := ?_) (by simp only [r15_4]; simp [h2, l2, h5, terms_len, hlt]; exact rfl) ?_))
    refine W_cond_t (by simp) (W_skip ?_)
    refine W_seq (W_block (W_seq (W_tops (s1 := ?_) (by simp only [r15_6]; simp [h2, h3, l2, l3, h5, ga, gb]; exact rfl) ?_)))
    have hd : a.drop i = a[i] :: a.drop (i + 1) := by rw [List.drop_eq_getElem_cons hia]
    have hd2 : b.drop i = b[i] :: b.drop (i + 1) := by rw [List.drop_eq_getElem_cons hib]
    by_cases he : a[i] = b[i]
    · refine W_cond_f (by simp [he]) (W_skip ?_)
      refine W_ops (s1 := ?_) (by simp only [r15_5]; simp [h5, hw]; exact rfl) ?_
      have ih := refSame_loop a b oa ob hab hlen k (i + 1) (by omega) (by omega)
      refine (ih _ _ h (by simp [h2]) (by simp [h3]) (by simp [l2]) (by simp [l3]) (by simp)).mono ?_
      rw [hd, hd2, he]
      simp only [List.cons.injEq, true_and, ne_eq]
      exact fun e s h => h
    · have hne : ¬ (a[i].1 = b[i].1 ∧ a[i].2 = b[i].2) := fun h => he (Prod.ext h.1 h.2)
      refine W_cond_t (by simp; exact Decidable.not_and_iff_not_or_not.1 hne) (W_seq (W_ops (s1 := ?_) (by simp only [r15_7]; simp; exact rfl) (W_ret ⟨rfl, .inr ⟨?_, rfl, by simp⟩⟩)))
      rw [hd, hd2]
      intro h
      injection h with h
      exact he h

theorem refSame_run (ta tb : Tag) (a b : List (Int × Int)) (oa ob : Int) (hlen : (a.length : Int) < 2 ^ 62) (hlen2 : (b.length : Int) < 2 ^ 62) (h : LS.Heap) :
    callD T 15 [.agg (formC ta a oa), .agg (formC tb b ob)] h = some (.bool (decide (oa = ob) && decide (a = b)), h) := by
  refine W_call t15 rfl rfl (by simp) ?_
  show W T c15 _ _
  unfold c15
  refine W_seq (W_ops (s1 := ?_) (by simp only [r15_0]; simp [formC, a15]; exact rfl) ?_)
  by_cases ho : oa = ob
  case neg =>
    refine W_seq (W_seq (W_ops (s1 := ?_) (by simp only [r15_1]; simp [ho]; exact rfl) ?_))
    refine W_cond_t (by simp) (W_seq (W_ops (s1 := ?_) (by simp only [r15_2]; simp; exact rfl) (W_ret ?_)))
    exact ⟨.inr rfl, [.bool false], by simp [a15, resV, resV1], by simp [a15, packV, ho], rfl, .refl _⟩
  by_cases hab : a.length = b.length
  · refine W_seq (W_seq (W_ops (s1 := ?_) (by simp only [r15_1]; simp [ho, terms_len, hab]; exact rfl) ?_))
    refine W_cond_f (by simp) (W_skip ?_)
    refine W_seq (W_seq (W_ops (s1 := ?_) (by simp only [r15_3]; simp; exact rfl) ?_))
    refine W_block ((refSame_loop a b oa ob hab hlen a.length 0 (by omega) (by omega) _ _ h (by simp [nextVer]) (by simp [nextVer]) (by simp [nextVer]; exact ho.symm) (by simp [nextVer]) (by simp)).mono ?_)
    rintro e ⟨t1, loc1, h1⟩ ⟨hh, ⟨hm, rfl⟩ | ⟨hm, rfl, h2⟩⟩
    · refine W_seq (W_ops (s1 := ?_) (by simp only [r15_8]; simp; exact rfl) (W_ret ?_))
      have hm : a = b := by simpa using hm
      exact ⟨.inr rfl, [.bool true], by simp [a15, resV, resV1], by simp [a15, packV, hm, ho], rfl, by simp only at hh; subst hh; exact .refl _⟩
    · have hm : a ≠ b := by simpa using hm
      exact ⟨.inr rfl, [.bool false], by simp at h2; simp [a15, resV, resV1, h2], by simp [a15, packV, hm], rfl, by simp only at hh; subst hh; exact .refl _⟩
  · have hne : a ≠ b := fun h => hab (by rw [h])
    have hne2 : ¬ ((a.length : Int) = b.length) := by omega
    refine W_seq (W_seq (W_ops (s1 := ?_) (by simp only [r15_1]; simp [ho, terms_len, hab]; exact rfl) ?_))
    refine W_cond_t (by simp; exact hne2) (W_seq (W_ops (s1 := ?_) (by simp only [r15_2]; simp; exact rfl) (W_ret ?_)))
    exact ⟨.inr rfl, [.bool false], by simp [a15, resV, resV1], by simp [a15, packV, hne], rfl, .refl _⟩

end Go.Proofs.YtcngflmnbdcppaaGreat

/- Forms: the document's answer to what may be; whether all of some forms may be. -/
namespace Go.Proofs.YtcngflmnbdcppaaGreat
open Go.LS Go.IntWalk

theorem refMay_loop (a : List (Int × Int)) (oa : Int) (hlen : (a.length : Int) < 2 ^ 62) : ∀ (k i : Nat) (hk : a.length - i = k) (hi : i ≤ a.length) (last : Int) (hl0 : 0 ≤ last) (hl1 : i = 0 → last = 0) (hl2 : ∀ h : i - 1 < a.length, 0 < i → a[i-1].1 = last)
    (t : Nat → V) (loc : LS.Loc) (h : LS.Heap) (h1 : t 1 = .loc 1 0 0) (l1 : loc 1 = some (0, [.lst .ro (terms a), .int .u64 oa])) (h3 : t 3 = .int .i64 i),
    W T (.loop l13_0) ⟨t, loc, h⟩ (fun e s => s.h = h ∧ ((mayL last (a.drop i) = true ∧ e = .exit 0) ∨ (mayL last (a.drop i) = false ∧ e = .ret ∧ s.t 2 = .bool false)))
  | 0, i, hk, hi, last, hl0, hl1, hl2, t, loc, h, h1, l1, h3 => by
    have hlt : ¬ ((i : Int) < a.length) := by omega
    refine W_loop' l13_0.eq_1 ?_
    refine W_seq (W_seq (W_ops (s1 := ?_) (by simp only [r13_2]; simp [h1, l1, h3, terms_len, hlt]; exact rfl) ?_))
    refine W_cond_f (by simp) (W_exit ⟨rfl, .inl ⟨?_, rfl⟩⟩)
    rw [List.drop_eq_nil_of_le (by omega)]
    rfl
  | k + 1, i, hk, hi, last, hl0, hl1, hl2, t, loc, h, h1, l1, h3 => by
    have hia : i < a.length := by omega
    have hlt : ((i : Int) < a.length) := by omega
    have hw : IntKind.i64.wrap ((i : Int) + 1) = ((i + 1 : Nat) : Int) := by rw [i64_in _ (by omega)]; simp
    have ga := terms_at hia
    have hd : a.drop i = a[i] :: a.drop (i + 1) := by rw [List.drop_eq_getElem_cons hia]
    refine W_loop' l13_0.eq_1 ?_
    refine W_seq (W_seq (W_ops (s1 := ?_) (by simp only [r13_2]; simp [h1, l1, h3, terms_len, hlt]; exact rfl) ?_))
    refine W_cond_t (by simp) (W_skip ?_)
    rw [hd]
    have stop : ∀ (s1 : St), runOps (callD T) r13_4 ⟨upd (upd (upd (upd (upd t 4 (.int .i64 i)) 5 (.loc 1 0 0)) 6 (.lst .ro (terms a))) 7 (.int .i64 a.length)) 8 (.bool true), loc, h⟩ = some s1 → s1.t 55 = .bool true → s1.h = h → mayL last (a[i] :: a.drop (i + 1)) = false →
        W T ((AC.block 1 ((AC.tops r13_4 p13_4).seq ((Opd.t 55 |> AC.cond) ((AC.ops r13_5).seq AC.ret) AC.skip))).seq (AC.ops r13_3)) ⟨upd (upd (upd (upd (upd t 4 (.int .i64 i)) 5 (.loc 1 0 0)) 6 (.lst .ro (terms a))) 7 (.int .i64 a.length)) 8 (.bool true), loc, h⟩
          (thenW (fun s1 => W T (AC.loop l13_0) s1 (fun e s => s.h = h ∧ ((mayL last (a[i] :: a.drop (i + 1)) = true ∧ e = .exit 0) ∨ (mayL last (a[i] :: a.drop (i + 1)) = false ∧ e = .ret ∧ s.t 2 = .bool false))))
            (fun e s => s.h = h ∧ ((mayL last (a[i] :: a.drop (i + 1)) = true ∧ e = .exit 0) ∨ (mayL last (a[i] :: a.drop (i + 1)) = false ∧ e = .ret ∧ s.t 2 = .bool false)))) := by
      rintro ⟨t1, loc1, h1⟩ hr h55 hh hm
      refine W_seq (W_block (W_seq (W_tops hr ?_)))
      simp only at h55 hh
      refine W_cond_t (by simp [h55]) (W_seq (W_ops (s1 := ?_) (by simp only [r13_5]; simp; exact rfl) (W_ret ⟨hh, .inr ⟨hm, rfl, by simp⟩⟩)))
    by_cases c1 : a[i].1 < 1
    · exact stop _ (by simp only [r13_4]; simp [h1, l1, h3, ga, c1]; exact rfl) (by simp) (by simp) (by simp [mayL]; omega)
    by_cases c2 : 1023 < a[i].1
    · exact stop _ (by simp only [r13_4]; simp [h1, l1, h3, ga, c1, c2]; exact rfl) (by simp) (by simp) (by simp [mayL]; omega)
    by_cases c3 : a[i].2 = 0
    · exact stop _ (by simp only [r13_4]; simp [h1, l1, h3, ga, c1, c2, c3]; exact rfl) (by simp) (by simp) (by simp [mayL]; omega)
    have ih := refMay_loop a oa hlen k (i + 1) (by omega) (by omega) a[i].1 (by omega) (by omega) (fun _ _ => by simp)
    have go : ∀ (s1 : St), runOps (callD T) r13_4 ⟨upd (upd (upd (upd (upd t 4 (.int .i64 i)) 5 (.loc 1 0 0)) 6 (.lst .ro (terms a))) 7 (.int .i64 a.length)) 8 (.bool true), loc, h⟩ = some s1 → s1.t 55 = .bool false → s1.h = h → s1.loc = loc → s1.t 1 = .loc 1 0 0 → s1.t 3 = .int .i64 i →
        mayL last (a[i] :: a.drop (i + 1)) = mayL a[i].1 (a.drop (i + 1)) →
        W T ((AC.block 1 ((AC.tops r13_4 p13_4).seq ((Opd.t 55 |> AC.cond) ((AC.ops r13_5).seq AC.ret) AC.skip))).seq (AC.ops r13_3)) ⟨upd (upd (upd (upd (upd t 4 (.int .i64 i)) 5 (.loc 1 0 0)) 6 (.lst .ro (terms a))) 7 (.int .i64 a.length)) 8 (.bool true), loc, h⟩
          (thenW (fun s1 => W T (AC.loop l13_0) s1 (fun e s => s.h = h ∧ ((mayL last (a[i] :: a.drop (i + 1)) = true ∧ e = .exit 0) ∨ (mayL last (a[i] :: a.drop (i + 1)) = false ∧ e = .ret ∧ s.t 2 = .bool false))))
            (fun e s => s.h = h ∧ ((mayL last (a[i] :: a.drop (i + 1)) = true ∧ e = .exit 0) ∨ (mayL last (a[i] :: a.drop (i + 1)) = false ∧ e = .ret ∧ s.t 2 = .bool false)))) := by
      rintro ⟨t1, loc1, h1'⟩ hr h55 hh hloc ht1 ht3 hm
      refine W_seq (W_block (W_seq (W_tops hr ?_)))
      simp only at h55 hh hloc ht1 ht3
      subst hh hloc
      refine W_cond_f (by simp [h55]) (W_skip ?_)
      refine W_ops (s1 := ?_) (by simp only [r13_3]; simp [ht3, hw]; exact rfl) ?_
      rw [hm]
      exact ih _ _ h1' (by simp [ht1]) l1 (by simp)
    by_cases hi0 : i = 0
    · have hi0' : ¬ (0 < i) := by omega
      exact go _ (by simp only [r13_4]; simp [h1, l1, h3, ga, c1, c2, c3, hi0']; exact rfl) (by simp) (by simp) (by simp) (by simp [h1]) (by simp [h3]) (by have := hl1 hi0; simp [mayL]; omega)
    · have hi0' : (0 < i) := by omega
      have hw1 : IntKind.i64.wrap ((i : Int) - 1) = ((i - 1 : Nat) : Int) := by rw [i64_in _ (by omega)]; omega
      have gb := terms_at (show i - 1 < a.length by omega)
      have hl := hl2 (by omega) (by omega)
      rw [hl] at gb
      by_cases c4 : a[i].1 ≤ last
      · exact stop _ (by simp only [r13_4]; simp [h1, l1, h3, ga, c1, c2, c3, hi0', hw1, gb, c4]; exact rfl) (by simp) (by simp) (by simp [mayL]; omega)
      · exact go _ (by simp only [r13_4]; simp [h1, l1, h3, ga, c1, c2, c3, hi0', hw1, gb, c4]; exact rfl) (by simp) (by simp) (by simp) (by simp [h1]) (by simp [h3]) (by simp [mayL]; omega)

theorem refMay_run (tg : Tag) (l : List (Int × Int)) (off : Int) (hlen : (l.length : Int) < 2 ^ 62) (h : LS.Heap) :
    callD T 13 [.agg (formC tg l off)] h = some (.bool (mayL 0 l), h) := by
  refine W_call t13 rfl rfl (by simp) ?_
  show W T c13 _ _
  unfold c13
  refine W_seq (W_ops (s1 := ?_) (by simp only [r13_0]; simp [formC, a13]; exact rfl) ?_)
  refine W_seq (W_seq (W_ops (s1 := ?_) (by simp only [r13_1]; simp; exact rfl) ?_))
  refine W_block ((refMay_loop l off hlen l.length 0 (by omega) (by omega) 0 (by omega) (fun _ => rfl) (fun _ h => absurd h (by omega)) _ _ h (by simp [nextVer]) (by simp [nextVer]) (by simp)).mono ?_)
  rintro e ⟨t1, loc1, h1⟩ ⟨hh, ⟨hm, rfl⟩ | ⟨hm, rfl, h2⟩⟩
  · rw [List.drop_zero] at hm
    refine W_seq (W_ops (s1 := ?_) (by simp only [r13_6]; simp; exact rfl) (W_ret ?_))
    exact ⟨.inr rfl, [.bool true], by simp [a13, resV, resV1], by simp [a13, packV, hm], rfl, by simp only at hh; subst hh; exact .refl _⟩
  · rw [List.drop_zero] at hm
    exact ⟨.inr rfl, [.bool false], by simp at h2; simp [a13, resV, resV1, h2], by simp [a13, packV, hm], rfl, by simp only at hh; subst hh; exact .refl _⟩

/-! ### affine.may: whether all of two forms may be -/

theorem mayP_run (tg : Tag) (l : List (Int × Int)) (off : Int) (hlen : (l.length : Int) < 2 ^ 62) (h : LS.Heap) :
    callD T 37 [.agg (formC tg l off)] h = some (.bool (!mayL 0 l), h) := by
  refine W_call t37 rfl rfl (by simp) ?_
  show W T c37 _ _
  unfold c37
  have hM := May_run .ro l off hlen h
  simp only [formC] at hM
  refine W_seq (W_ops (s1 := ?_) (by simp only [r37_0]; simp [formC, a37]; exact rfl) ?_)
  refine W_seq (W_ops (s1 := ?_) (by simp only [r37_1]; simp [hM]; exact rfl) (W_ret ?_))
  exact ⟨.inr rfl, [.bool (!mayL 0 l)], by simp [a37, resV, resV1], by simp [a37, packV], rfl, .refl _⟩

/-- Of two forms: the first one that may not be. -/
theorem may_run (ta tb tl : Tag) (a b : List (Int × Int)) (oa ob : Int) (ha : (a.length : Int) < 2 ^ 62) (hb : (b.length : Int) < 2 ^ 62) (h : LS.Heap) :
    callD T 20 [.lst tl [formC ta a oa, formC tb b ob]] h = some (.bool (mayL 0 a && mayL 0 b), h) := by
  have h1 := mayP_run .ro a oa ha h
  have h2 := mayP_run .ro b ob hb h
  simp only [formC] at h1 h2
  have hI : callD T 50 [.lst .ro [formC .ro a oa, formC .ro b ob], .fn 37 [] []] h = some (.int .i64 (if mayL 0 a = false then 0 else if mayL 0 b = false then 1 else -1), h) := by
    refine W_call t50 rfl rfl (by simp) ?_
    show W T c50 _ _
    unfold c50
    refine W_seq (W_ops (s1 := ?_) (by simp only [r50_0]; simp [formC, a50]; exact rfl) ?_)
    refine W_seq (W_seq (W_ops (s1 := ?_) (by simp only [r50_1]; simp; exact rfl) ?_))
    refine W_block (W_loop' l50_0.eq_1 ?_)
    refine W_seq (W_ops (s1 := ?_) (by simp only [r50_2]; simp; exact rfl) ?_)
    refine W_seq (W_cond_t (by simp) (W_skip ?_))
    refine W_seq (W_block (W_seq (W_ops (s1 := ?_) (by simp only [r50_3]; simp; exact rfl) ?_)))
    refine W_seq (W_ops (s1 := ?_) (by simp only [r50_4]; simp [h1]; exact rfl) ?_)
    by_cases ca : mayL 0 a = false
    · refine W_cond_t (by simp [ca]) (W_seq (W_ops (s1 := ?_) (by simp only [r50_5]; simp; exact rfl) (W_ret ?_)))
      exact ⟨.inr rfl, [.int .i64 0], by simp [a50, resV, resV1], by simp [a50, packV, ca], rfl, .refl _⟩
    have ca' : mayL 0 a = true := by simpa using ca
    refine W_cond_f (by simp [ca']) (W_skip ?_)
    have w1 : IntKind.i64.wrap 1 = 1 := i64_in _ (by omega)
    have w2 : IntKind.i64.wrap 2 = 2 := i64_in _ (by omega)
    refine W_ops (s1 := ?_) (by simp only [r50_6]; simp [w1]; exact rfl) ?_
    refine W_loop' l50_0.eq_1 ?_
    refine W_seq (W_ops (s1 := ?_) (by simp only [r50_2]; simp; exact rfl) ?_)
    refine W_seq (W_cond_t (by simp) (W_skip ?_))
    refine W_seq (W_block (W_seq (W_ops (s1 := ?_) (by simp only [r50_3]; simp; exact rfl) ?_)))
    refine W_seq (W_ops (s1 := ?_) (by simp only [r50_4]; simp [h2]; exact rfl) ?_)
    by_cases cb : mayL 0 b = false
    · refine W_cond_t (by simp [cb]) (W_seq (W_ops (s1 := ?_) (by simp only [r50_5]; simp; exact rfl) (W_ret ?_)))
      exact ⟨.inr rfl, [.int .i64 1], by simp [a50, resV, resV1], by simp [a50, packV, ca', cb], rfl, .refl _⟩
    have cb' : mayL 0 b = true := by simpa using cb
    refine W_cond_f (by simp [cb']) (W_skip ?_)
    refine W_ops (s1 := ?_) (by simp only [r50_6]; simp [w2]; exact rfl) ?_
    refine W_loop' l50_0.eq_1 ?_
    refine W_seq (W_ops (s1 := ?_) (by simp only [r50_2]; simp; exact rfl) ?_)
    refine W_seq (W_cond_f (by simp) (W_exit ?_))
    refine W_seq (W_ops (s1 := ?_) (by simp only [r50_7]; simp; exact rfl) (W_ret ?_))
    exact ⟨.inr rfl, [.int .i64 (-1)], by simp [a50, resV, resV1], by simp [a50, packV, ca', cb'], rfl, .refl _⟩
  have hC : callD T 36 [.lst .ro [formC .ro a oa, formC .ro b ob], .fn 37 [] []] h = some (.bool (!(mayL 0 a && mayL 0 b)), h) := by
    refine W_call t36 rfl rfl (by simp) ?_
    show W T c36 _ _
    unfold c36
    simp only [formC] at hI
    refine W_seq (W_ops (s1 := ?_) (by simp only [r36_0]; simp [formC, a36]; exact rfl) ?_)
    refine W_seq (W_ops (s1 := ?_) (by simp only [r36_1]; simp [hI]; exact rfl) (W_ret ?_))
    exact ⟨.inr rfl, _, by simp [a36, resV, resV1]; exact rfl, by cases h1 : mayL 0 a <;> cases h2 : mayL 0 b <;> simp [a36, packV], rfl, .refl _⟩
  refine W_call t20 rfl rfl (by simp) ?_
  show W T c20 _ _
  unfold c20
  simp only [formC] at hC
  refine W_seq (W_ops (s1 := ?_) (by simp only [r20_0]; simp [formC, a20]; exact rfl) ?_)
  refine W_seq (W_ops (s1 := ?_) (by simp only [r20_1]; simp [hC]; exact rfl) (W_ret ?_))
  exact ⟨.inr rfl, [.bool (mayL 0 a && mayL 0 b)], by simp [a20, resV, resV1], by simp [a20, packV], rfl, .refl _⟩

end Go.Proofs.YtcngflmnbdcppaaGreat

/- Forms: two forms, term by term. -/
namespace Go.Proofs.YtcngflmnbdcppaaGreat
open Go.LS Go.IntWalk

def keepT (v s : Int) (l : List (Int × Int)) : List (Int × Int) := if s = 0 then l else (v, s) :: l

def bothL (f : Int → Int → Int) : List (Int × Int) → List (Int × Int) → List (Int × Int)
  | [], [] => []
  | (v, s) :: x, [] => keepT v (f s 0) (bothL f x [])
  | [], (w, r) :: y => keepT w (f 0 r) (bothL f [] y)
  | (v, s) :: x, (w, r) :: y => if v < w then keepT v (f s 0) (bothL f x ((w, r) :: y)) else if w < v then keepT w (f 0 r) (bothL f ((v, s) :: x) y) else keepT v (f s r) (bothL f x y)
termination_by a b => a.length + b.length

structure BothInv (xs ys : List (Int × Int)) (ox oy : Int) (F : FuncId) (caps : List V) (h0 : LS.Heap) (off : Int) (i j : Nat) (out : List (Int × Int)) (s : St) : Prop where
  t2 : s.t 2 = .fn F [] caps
  t3 : s.t 3 = .loc 3 0 0
  t4 : s.t 4 = .loc 4 0 0
  t6 : s.t 6 = .loc 6 0 0
  t7 : s.t 7 = .loc 7 0 0
  t8 : s.t 8 = .int .i64 i
  t9 : s.t 9 = .int .i64 j
  l3 : s.loc 3 = some (0, [.lst .ro (terms xs), .int .u64 ox])
  l4 : s.loc 4 = some (0, [.lst .ro (terms ys), .int .u64 oy])
  l6 : s.loc 6 = some (0, [.lst .nil [], .int .u64 0])
  acc : ∃ a, s.loc 7 = some (0, [a, .int .u64 off]) ∧ Acc 2 h0 s.h a (terms out)
  hx : HExt h0 s.h

theorem terms_append (a b : List (Int × Int)) : terms (a ++ b) = terms a ++ terms b := by simp [terms]
theorem terms_ok (a : List (Int × Int)) : okSize 2 (terms a) = true := by cases a <;> simp [terms, okSize]

section
variable {xs ys : List (Int × Int)} {ox oy : Int} {F : FuncId} {caps : List V} {h0 : LS.Heap} {off : Int} {f : Int → Int → Int}

theorem both_tail {i j : Nat} {out : List (Int × Int)} {t : Nat → V} {loc : LS.Loc} {h : LS.Heap} {ver : Nat} {v s : Int} (hi : BothInv xs ys ox oy F caps h0 off i j out ⟨t, loc, h⟩)
    (h10 : t 10 = .loc 10 ver 0) (l10 : loc 10 = some (ver, [.int .i64 v, .int .u64 s])) (hout : (out.length : Int) < 2 ^ 40) :
    W T (.seq (.ops r21_13) (.cond (.t 140) (.ops r21_14) (.skip))) ⟨t, loc, h⟩ (fun e s1 => e = .normal ∧ BothInv xs ys ox oy F caps h0 off i j (out ++ keepT v s []) s1) := by
  obtain ⟨t2, t3, t4, t6, t7, t8, t9, l3, l4, l6, ⟨a, l7, ha⟩, hx⟩ := hi
  simp only at t2 t3 t4 t6 t7 t8 t9 l3 l4 l6 l7 ha hx
  refine W_seq (W_ops (s1 := ?_) (by simp only [r21_13]; simp [h10, l10]; exact rfl) ?_)
  by_cases hs : s = 0
  · refine W_cond_f (by simp [hs]) (W_skip ⟨rfl, ?_⟩)
    simp only [keepT, hs, if_true, List.append_nil]
    exact ⟨by simp [t2], by simp [t3], by simp [t4], by simp [t6], by simp [t7], by simp [t8], by simp [t9], l3, l4, l6, ⟨a, l7, ha⟩, hx⟩
  · obtain ⟨a', h', e1, e2, e3⟩ := ha.append (bytes := 16) (m := [[.int .i64 v, .int .u64 s]]) (tg := .exact) hx (by simp) (by simp [okSize]) (terms_ok _) (by simp [terms_len]; omega)
    obtain ⟨tk, rfl, e4⟩ : ∃ tk, a' = .lst (.own tk) (terms out ++ [[.int .i64 v, .int .u64 s]]) ∧ h'.objs tk = some (.tok (terms out ++ [[V.int .i64 v, V.int .u64 s]]).length 2) ∧ h0.next ≤ tk := by
      rcases e2 with ⟨h9, _⟩ | h9
      · simp at h9
      · exact h9
    refine W_cond_t (by simp [hs]) (W_ops (s1 := ?_) (by simp only [r21_14]; simp [t7, l7, h10, l10, e1]; exact rfl) ⟨rfl, ?_⟩)
    refine ⟨by simp [t2], by simp [t3], by simp [t4], by simp [t6], by simp [t7], by simp [t8], by simp [t9], by simp [l3], by simp [l4], by simp [l6], ⟨_, by simp; exact rfl, ?_⟩, e3⟩
    simp only [keepT, hs, if_false, terms_append]
    exact .inr ⟨tk, by simp [terms], by simpa [terms] using e4.1, e4.2⟩

/-- Calls of what is done to two numbers. -/
def DoOK (F : FuncId) (caps : List V) (h0 : LS.Heap) (f : Int → Int → Int) : Prop := ∀ (a b : Int) (h : LS.Heap), HExt h0 h → callD T F (.int .u64 a :: .int .u64 b :: caps) h = some (.int .u64 (f a b), h)

theorem both_body (hf : DoOK F caps h0 f) (hlx : (xs.length : Int) < 2 ^ 39) (hly : (ys.length : Int) < 2 ^ 39) {i j : Nat} (hi : i ≤ xs.length) (hj : j ≤ ys.length) (hij : i < xs.length ∨ j < ys.length) {out : List (Int × Int)} (hout : (out.length : Int) < 2 ^ 40)
    {t : Nat → V} {loc : LS.Loc} {h : LS.Heap} (hinv : BothInv xs ys ox oy F caps h0 off i j out ⟨t, loc, h⟩) :
    W T l21_0 ⟨t, loc, h⟩ (fun e s1 => e = .normal ∧ ∃ i' j' l, i ≤ i' ∧ j ≤ j' ∧ i' ≤ xs.length ∧ j' ≤ ys.length ∧ i + j < i' + j' ∧ l.length ≤ 1 ∧ bothL f (xs.drop i) (ys.drop j) = l ++ bothL f (xs.drop i') (ys.drop j') ∧ BothInv xs ys ox oy F caps h0 off i' j' (out ++ l) s1) := by
  obtain ⟨t2, t3, t4, t6, t7, t8, t9, l3, l4, l6, ⟨a, l7, ha⟩, hx⟩ := hinv
  simp only at t2 t3 t4 t6 t7 t8 t9 l3 l4 l6 l7 ha hx
  have hwi : IntKind.i64.wrap ((i : Int) + 1) = ((i + 1 : Nat) : Int) := by rw [i64_in _ (by omega)]; simp
  have hwj : IntKind.i64.wrap ((j : Int) + 1) = ((j + 1 : Nat) : Int) := by rw [i64_in _ (by omega)]; simp
  unfold l21_0
  -- what is done behind the choice
  have fin : ∀ {i' j' : Nat} {v s : Int} {t1 : Nat → V} {loc1 : LS.Loc} {ver : Nat}, t1 10 = .loc 10 ver 0 → loc1 10 = some (ver, [.int .i64 v, .int .u64 s]) → BothInv xs ys ox oy F caps h0 off i' j' out ⟨t1, loc1, h⟩ →
      i ≤ i' → j ≤ j' → i' ≤ xs.length → j' ≤ ys.length → i + j < i' + j' → bothL f (xs.drop i) (ys.drop j) = keepT v s (bothL f (xs.drop i') (ys.drop j')) →
      W T (.seq (.ops r21_13) (.cond (.t 140) (.ops r21_14) (.skip))) ⟨t1, loc1, h⟩ (blockW 1 (fun e s1 => e = .normal ∧ ∃ i' j' l, i ≤ i' ∧ j ≤ j' ∧ i' ≤ xs.length ∧ j' ≤ ys.length ∧ i + j < i' + j' ∧ l.length ≤ 1 ∧ bothL f (xs.drop i) (ys.drop j) = l ++ bothL f (xs.drop i') (ys.drop j') ∧ BothInv xs ys ox oy F caps h0 off i' j' (out ++ l) s1)) := by
    intro i' j' v s t1 loc1 ver h10 l10 hinv' h1 h2 h3 h4 h5 h6
    refine (both_tail hinv' h10 l10 hout).mono ?_
    rintro e s1 ⟨rfl, hb⟩
    refine ⟨rfl, i', j', keepT v s [], h1, h2, h3, h4, h5, ?_, ?_, hb⟩
    · unfold keepT; split <;> simp
    · rw [h6]; unfold keepT; split <;> simp
  have hany : ∀ (e1 : t 8 = .int .i64 i), True := fun _ => trivial
  by_cases hxi : i < xs.length
  · have gx := terms_at hxi
    have dx : xs.drop i = (xs[i].1, xs[i].2) :: xs.drop (i + 1) := by rw [List.drop_eq_getElem_cons hxi]
    refine W_seq (W_seq (W_ops (s1 := ?_) (by simp only [r21_3]; simp [t3, t4, t8, t9, l3, l4, terms_len, hxi]; exact rfl) ?_))
    refine W_cond_t (by simp) (W_skip ?_)
    refine W_block (W_seq (W_ops (s1 := ?_) (by simp only [r21_4]; simp; exact rfl) ?_))
    by_cases hyj : j < ys.length
    · have gy := terms_at hyj
      have dy : ys.drop j = (ys[j].1, ys[j].2) :: ys.drop (j + 1) := by rw [List.drop_eq_getElem_cons hyj]
      have hne : ¬ ((j : Int) = ys.length) := by omega
      have hne' : ¬ (j = ys.length) := by omega
      have hnx : ¬ ((i : Int) = xs.length) := by omega
      have hnx' : ¬ (i = xs.length) := by omega
      by_cases c1 : xs[i].1 < ys[j].1
      · have hd := hf xs[i].2 0 h hx
        refine W_seq (W_block (W_seq (W_tops (s1 := ?_) (by simp only [r21_7]; simp [t3, t4, t8, t9, l3, l4, terms_len, hne, hne', hxi, gx, gy, c1]; exact rfl) ?_)))
        refine W_cond_t (by simp) (W_seq (W_tops (s1 := ?_) (by simp only [r21_8]; simp [t2, t3, t4, t8, t9, l3, l4, gx, hd]; exact rfl) ?_))
        refine W_ops (s1 := ?_) (by simp only [r21_9]; simp [t8, hwi]; exact rfl) ?_
        refine fin (i' := i + 1) (j' := j) (v := xs[i].1) (s := f xs[i].2 0) (by simp; exact rfl) (by simp) ⟨by simp [t2], by simp [t3], by simp [t4], by simp [t6], by simp [t7], by simp, by simp [t9], by simp [l3], by simp [l4], by simp [l6], ⟨a, by simp [l7], ha⟩, hx⟩ (by omega) (by omega) (by omega) (by omega) (by omega) ?_
        rw [dx, dy, bothL, if_pos c1]
      by_cases c2 : ys[j].1 < xs[i].1
      · have hd := hf 0 ys[j].2 h hx
        refine W_seq (W_block (W_seq (W_tops (s1 := ?_) (by simp only [r21_7]; simp [t3, t4, t8, t9, l3, l4, terms_len, hne, hne', hxi, hyj, gx, gy, c1]; exact rfl) ?_)))
        refine W_cond_f (by simp) (W_seq (W_tops (s1 := ?_) (by simp only [r21_10]; simp [t3, t4, t8, t9, l3, l4, terms_len, hnx, hnx', hxi, hyj, gx, gy, c2]; exact rfl) ?_))
        refine W_cond_t (by simp) (W_seq (W_tops (s1 := ?_) (by simp only [r21_11]; simp [t2, t3, t4, t8, t9, l3, l4, gy, hd]; exact rfl) ?_))
        refine W_ops (s1 := ?_) (by simp only [r21_12]; simp [t9, hwj]; exact rfl) ?_
        refine fin (i' := i) (j' := j + 1) (v := ys[j].1) (s := f 0 ys[j].2) (by simp; exact rfl) (by simp) ⟨by simp [t2], by simp [t3], by simp [t4], by simp [t6], by simp [t7], by simp [t8], by simp, by simp [l3], by simp [l4], by simp [l6], ⟨a, by simp [l7], ha⟩, hx⟩ (by omega) (by omega) (by omega) (by omega) (by omega) ?_
        rw [dx, dy, bothL, if_neg c1, if_pos c2]
      · have hd := hf xs[i].2 ys[j].2 h hx
        refine W_seq (W_block (W_seq (W_tops (s1 := ?_) (by simp only [r21_7]; simp [t3, t4, t8, t9, l3, l4, terms_len, hne, hne', hxi, hyj, gx, gy, c1]; exact rfl) ?_)))
        refine W_cond_f (by simp) (W_seq (W_tops (s1 := ?_) (by simp only [r21_10]; simp [t3, t4, t8, t9, l3, l4, terms_len, hnx, hnx', hxi, hyj, gx, gy, c2]; exact rfl) ?_))
        refine W_cond_f (by simp) (W_seq (W_tops (s1 := ?_) (by simp only [r21_5]; simp [t2, t3, t4, t8, t9, l3, l4, gx, gy, hd]; exact rfl) ?_))
        refine W_ops (s1 := ?_) (by simp only [r21_6]; simp [t8, t9, hwi, hwj]; exact rfl) ?_
        refine fin (i' := i + 1) (j' := j + 1) (v := xs[i].1) (s := f xs[i].2 ys[j].2) (by simp; exact rfl) (by simp) ⟨by simp [t2], by simp [t3], by simp [t4], by simp [t6], by simp [t7], by simp, by simp, by simp [l3], by simp [l4], by simp [l6], ⟨a, by simp [l7], ha⟩, hx⟩ (by omega) (by omega) (by omega) (by omega) (by omega) ?_
        rw [dx, dy, bothL, if_neg c1, if_neg c2]
    · have hje : j = ys.length := by omega
      have dy : ys.drop j = [] := List.drop_eq_nil_of_le (by omega)
      have hd := hf xs[i].2 0 h hx
      refine W_seq (W_block (W_seq (W_tops (s1 := ?_) (by simp only [r21_7]; simp [t3, t4, t8, t9, l3, l4, terms_len, hje]; exact rfl) ?_)))
      refine W_cond_t (by simp) (W_seq (W_tops (s1 := ?_) (by simp only [r21_8]; simp [t2, t3, t4, t8, t9, l3, l4, gx, hd]; exact rfl) ?_))
      refine W_ops (s1 := ?_) (by simp only [r21_9]; simp [t8, hwi]; exact rfl) ?_
      refine fin (i' := i + 1) (j' := j) (v := xs[i].1) (s := f xs[i].2 0) (by simp; exact rfl) (by simp) ⟨by simp [t2], by simp [t3], by simp [t4], by simp [t6], by simp [t7], by simp, by simp [t9], by simp [l3], by simp [l4], by simp [l6], ⟨a, by simp [l7], ha⟩, hx⟩ (by omega) (by omega) (by omega) (by omega) (by omega) ?_
      rw [dx, dy, bothL]
  · have hyj : j < ys.length := by omega
    have hie : i = xs.length := by omega
    have gy := terms_at hyj
    have dx : xs.drop i = [] := List.drop_eq_nil_of_le (by omega)
    have dy : ys.drop j = (ys[j].1, ys[j].2) :: ys.drop (j + 1) := by rw [List.drop_eq_getElem_cons hyj]
    have hne : ¬ ((j : Int) = ys.length) := by omega
    have hne' : ¬ (j = ys.length) := by omega
    have hd := hf 0 ys[j].2 h hx
    refine W_seq (W_seq (W_ops (s1 := ?_) (by simp only [r21_3]; simp [t3, t4, t8, t9, l3, l4, terms_len, hxi, hyj]; exact rfl) ?_))
    refine W_cond_t (by simp) (W_skip ?_)
    refine W_block (W_seq (W_ops (s1 := ?_) (by simp only [r21_4]; simp; exact rfl) ?_))
    refine W_seq (W_block (W_seq (W_tops (s1 := ?_) (by simp only [r21_7]; simp [t3, t4, t8, t9, l3, l4, terms_len, hne, hne', hxi]; exact rfl) ?_)))
    refine W_cond_f (by simp) (W_seq (W_tops (s1 := ?_) (by simp only [r21_10]; simp [t3, t4, t8, t9, l3, l4, terms_len, hie]; exact rfl) ?_))
    refine W_cond_t (by simp) (W_seq (W_tops (s1 := ?_) (by simp only [r21_11]; simp [t2, t3, t4, t8, t9, l3, l4, gy, hd]; exact rfl) ?_))
    refine W_ops (s1 := ?_) (by simp only [r21_12]; simp [t9, hwj]; exact rfl) ?_
    refine fin (i' := i) (j' := j + 1) (v := ys[j].1) (s := f 0 ys[j].2) (by simp; exact rfl) (by simp) ⟨by simp [t2], by simp [t3], by simp [t4], by simp [t6], by simp [t7], by simp [t8], by simp, by simp [l3], by simp [l4], by simp [l6], ⟨a, by simp [l7], ha⟩, hx⟩ (by omega) (by omega) (by omega) (by omega) (by omega) ?_
    rw [dx, dy, bothL]

theorem both_loop (hf : DoOK F caps h0 f) (hlx : (xs.length : Int) < 2 ^ 39) (hly : (ys.length : Int) < 2 ^ 39) : ∀ (k i j : Nat) (out : List (Int × Int)) (s : St), (xs.length - i) + (ys.length - j) ≤ k → i ≤ xs.length → j ≤ ys.length → out.length ≤ i + j →
    BothInv xs ys ox oy F caps h0 off i j out s → W T (.loop l21_0) s (fun e s1 => e = .exit 0 ∧ ∃ i' j', BothInv xs ys ox oy F caps h0 off i' j' (out ++ bothL f (xs.drop i) (ys.drop j)) s1)
  | k, i, j, out, ⟨t, loc, h⟩, hk, hi, hj, hout, hinv => by
    by_cases hij : i < xs.length ∨ j < ys.length
    · refine W_loop ((both_body hf hlx hly hi hj hij (by omega) hinv).mono ?_)
      rintro e s1 ⟨rfl, i', j', l, h1, h2, h3, h4, h5, h6, h7, h8⟩
      cases k with
      | zero => omega
      | succ k =>
        refine (both_loop hf hlx hly k i' j' (out ++ l) s1 (by omega) h3 h4 (by simp; omega) h8).mono ?_
        rintro e s2 ⟨rfl, i2, j2, hb⟩
        rw [h7, ← List.append_assoc]
        exact ⟨rfl, i2, j2, hb⟩
    · have hxi : ¬ i < xs.length := by omega
      have hyj : ¬ j < ys.length := by omega
      have hinv' := hinv
      obtain ⟨t2, t3, t4, t6, t7, t8, t9, l3, l4, l6, ⟨a, l7, ha⟩, hx⟩ := hinv
      simp only at t2 t3 t4 t6 t7 t8 t9 l3 l4 l6 l7 ha hx
      refine W_loop' l21_0.eq_1 (W_seq (W_seq (W_ops (s1 := ?_) (by simp only [r21_3]; simp [t3, t4, t8, t9, l3, l4, terms_len, hxi, hyj]; exact rfl) ?_)))
      refine W_cond_f (by simp) (W_exit ⟨rfl, i, j, ?_⟩)
      rw [List.drop_eq_nil_of_le (by omega), List.drop_eq_nil_of_le (by omega), bothL, List.append_nil]
      exact ⟨by simp [t2], by simp [t3], by simp [t4], by simp [t6], by simp [t7], by simp [t8], by simp [t9], by simp [l3], by simp [l4], by simp [l6], ⟨a, by simp [l7], ha⟩, hx⟩

end

theorem under_terms (n : Nat) (l : List (Int × Int)) : V.underLL n (terms l) = true := by
  induction l with
  | nil => rfl
  | cons p l ih => simp [terms] at *; simpa [V.underLL, V.underL] using ih
attribute [simp] under_terms

theorem both_run {F : FuncId} {caps : List V} {h : LS.Heap} {f : Int → Int → Int} (hf : DoOK F caps h f) (hcaps : ∀ v ∈ caps, v.retag = v) (ta tb : Tag) (xs ys : List (Int × Int)) (ox oy : Int) (hlx : (xs.length : Int) < 2 ^ 39) (hly : (ys.length : Int) < 2 ^ 39) :
    callD T 21 [.agg (formC ta xs ox), .agg (formC tb ys oy), .fn F [] caps] h = some (.agg (formC .ro (bothL f xs ys) (f ox oy)), h) := by
  refine W_call t21 rfl rfl (by simp) ?_
  show W T c21 _ _
  unfold c21
  have hd := hf ox oy h (.refl h)
  refine W_seq (W_ops (s1 := ?_) (by simp only [r21_0]; simp [formC, a21]; exact rfl) ?_)
  refine W_seq (W_ops (s1 := ?_) (by simp only [r21_1]; simp [hd, nextVer]; exact rfl) ?_)
  refine W_seq (W_ops (s1 := ?_) (by simp only [r21_2]; simp; exact rfl) ?_)
  refine W_seq (W_block ((both_loop (xs := xs) (ys := ys) (ox := ox) (oy := oy) (off := f ox oy) hf hlx hly (xs.length + ys.length) 0 0 [] _ (by omega) (by omega) (by omega) (by simp)
    ⟨by simp, by simp [nextVer], by simp [nextVer], by simp [nextVer], by simp [nextVer], by simp, by simp, by simp [nextVer], by simp [nextVer], by simp [nextVer], ⟨.lst .nil [], by simp [nextVer], .nil _ _ _⟩, .refl h⟩).mono ?_))
  rintro e ⟨t1, loc1, h1⟩ ⟨rfl, i', j', hinv⟩
  obtain ⟨t2, t3, t4, t6, t7, t8, t9, l3, l4, l6, ⟨a, l7, ha⟩, hx⟩ := hinv
  simp only at t2 t3 t4 t6 t7 t8 t9 l3 l4 l6 l7 ha hx
  refine W_seq (W_ops (s1 := ?_) (by simp only [r21_15]; simp [t6, t7, l6, l7]; exact rfl) (W_ret ?_))
  have hr := ha.retag
  simp only [List.nil_append, List.drop_zero] at hr
  refine ⟨.inr rfl, [.agg [a, .int .u64 (f ox oy)]], by simp [a21, resV, resV1, t6], ?_, by simp [formC], hx⟩
  simp [a21, packV, formC, hr]

end Go.Proofs.YtcngflmnbdcppaaGreat

/- Forms: sum, difference, so many times. -/
namespace Go.Proofs.YtcngflmnbdcppaaGreat
open Go.LS Go.IntWalk

def addU (a b : Int) : Int := IntKind.u64.wrap (a + b)
def subU (a b : Int) : Int := IntKind.u64.wrap (a - b)
def mulU (a b : Int) : Int := IntKind.u64.wrap (a * b)

theorem plus_do (h0 : LS.Heap) : DoOK 22 [] h0 addU := by
  intro a b h _
  refine W_call t22 rfl rfl (by simp) ?_
  show W T c22 _ _
  unfold c22
  refine W_seq (W_ops (s1 := ?_) (by simp only [r22_0]; simp [a22]; exact rfl) ?_)
  refine W_seq (W_ops (s1 := ?_) (by simp only [r22_1]; simp; exact rfl) (W_ret ?_))
  exact ⟨.inr rfl, [.int .u64 (addU a b)], by simp [a22, resV, resV1, addU], by simp [a22, packV], rfl, .refl _⟩

theorem minus_do (h0 : LS.Heap) : DoOK 23 [] h0 subU := by
  intro a b h _
  refine W_call t23 rfl rfl (by simp) ?_
  show W T c23 _ _
  unfold c23
  refine W_seq (W_ops (s1 := ?_) (by simp only [r23_0]; simp [a23]; exact rfl) ?_)
  refine W_seq (W_ops (s1 := ?_) (by simp only [r23_1]; simp; exact rfl) (W_ret ?_))
  exact ⟨.inr rfl, [.int .u64 (subU a b)], by simp [a23, resV, resV1, subU], by simp [a23, packV], rfl, .refl _⟩

def plusM (a b : List (Int × Int)) (oa ob : Int) : List (Int × Int) × Int := if mayL 0 a = true ∧ mayL 0 b = true then (bothL addU a b, addU oa ob) else ([], 0)
def minusM (a b : List (Int × Int)) (oa ob : Int) : List (Int × Int) × Int := if mayL 0 a = true ∧ mayL 0 b = true then (bothL subU a b, subU oa ob) else ([], 0)

theorem terms_nil : terms [] = [] := rfl

theorem Plus_run (ta tb : Tag) (a b : List (Int × Int)) (oa ob : Int) (ha : (a.length : Int) < 2 ^ 39) (hb : (b.length : Int) < 2 ^ 39) (h : LS.Heap) :
    callD T 9 [.agg (formC ta a oa), .agg (formC tb b ob)] h = some (.agg (formC .ro (plusM a b oa ob).1 (plusM a b oa ob).2), h) := by
  refine W_call t9 rfl rfl (by simp) ?_
  show W T c9 _ _
  unfold c9
  have hm := may_run .ro .ro .exact a b oa ob (by omega) (by omega) h
  have hd := both_run (plus_do h) (by simp) .ro .ro a b oa ob ha hb
  simp only [formC] at hm hd
  refine W_seq (W_ops (s1 := ?_) (by simp only [r9_0]; simp [formC, a9]; exact rfl) ?_)
  refine W_seq (W_seq (W_ops (s1 := ?_) (by simp only [r9_1]; simp [nextVer, hm]; exact rfl) ?_))
  by_cases hc : mayL 0 a = true ∧ mayL 0 b = true
  · refine W_cond_f (by simp [hc]) (W_skip ?_)
    refine W_seq (W_ops (s1 := ?_) (by simp only [r9_3]; simp [nextVer, hd]; exact rfl) (W_ret ?_))
    exact ⟨.inr rfl, _, by simp [a9, resV, resV1, nextVer]; exact rfl, by simp [a9, packV, formC, plusM, hc], by simp [formC], .refl _⟩
  · have hc' : (mayL 0 a && mayL 0 b) = false := by
      cases h1 : mayL 0 a <;> cases h2 : mayL 0 b <;> simp_all
    refine W_cond_t (by simp; cases h1 : mayL 0 a <;> simp_all) ?_
    refine W_seq (W_ops (s1 := ?_) (by simp only [r9_2]; simp [nextVer]; exact rfl) (W_ret ?_))
    exact ⟨.inr rfl, _, by simp [a9, resV, resV1, nextVer]; exact rfl, by simp only [plusM]; rw [if_neg hc]; simp [a9, packV, formC, terms_nil], by simp [formC], .refl _⟩

theorem Minus_run (ta tb : Tag) (a b : List (Int × Int)) (oa ob : Int) (ha : (a.length : Int) < 2 ^ 39) (hb : (b.length : Int) < 2 ^ 39) (h : LS.Heap) :
    callD T 10 [.agg (formC ta a oa), .agg (formC tb b ob)] h = some (.agg (formC .ro (minusM a b oa ob).1 (minusM a b oa ob).2), h) := by
  refine W_call t10 rfl rfl (by simp) ?_
  show W T c10 _ _
  unfold c10
  have hm := may_run .ro .ro .exact a b oa ob (by omega) (by omega) h
  have hd := both_run (minus_do h) (by simp) .ro .ro a b oa ob ha hb
  simp only [formC] at hm hd
  refine W_seq (W_ops (s1 := ?_) (by simp only [r10_0]; simp [formC, a10]; exact rfl) ?_)
  refine W_seq (W_seq (W_ops (s1 := ?_) (by simp only [r10_1]; simp [nextVer, hm]; exact rfl) ?_))
  by_cases hc : mayL 0 a = true ∧ mayL 0 b = true
  · refine W_cond_f (by simp [hc]) (W_skip ?_)
    refine W_seq (W_ops (s1 := ?_) (by simp only [r10_3]; simp [nextVer, hd]; exact rfl) (W_ret ?_))
    exact ⟨.inr rfl, _, by simp [a10, resV, resV1, nextVer]; exact rfl, by simp [a10, packV, formC, minusM, hc], by simp [formC], .refl _⟩
  · have hc' : (mayL 0 a && mayL 0 b) = false := by
      cases h1 : mayL 0 a <;> cases h2 : mayL 0 b <;> simp_all
    refine W_cond_t (by simp; cases h1 : mayL 0 a <;> simp_all) ?_
    refine W_seq (W_ops (s1 := ?_) (by simp only [r10_2]; simp [nextVer]; exact rfl) (W_ret ?_))
    exact ⟨.inr rfl, _, by simp [a10, resV, resV1, nextVer]; exact rfl, by simp only [minusM]; rw [if_neg hc]; simp [a10, packV, formC, terms_nil], by simp [formC], .refl _⟩

theorem times_do (h0 : LS.Heap) (id : Nat) (n : Int) (hid : id < h0.next) (hob : h0.objs id = some (.var [.int .u64 n])) : DoOK 24 [.obj id 0] h0 (fun a _ => mulU a n) := by
  intro a b h hx
  have ho : h.objs id = some (.var [.int .u64 n]) := by rw [hx.2 id hid]; exact hob
  refine W_call t24 rfl rfl (by simp) ?_
  show W T c24 _ _
  unfold c24
  refine W_seq (W_ops (s1 := ?_) (by simp only [r24_0]; simp [a24]; exact rfl) ?_)
  refine W_seq (W_ops (s1 := ?_) (by simp only [r24_1]; simp [ho]; exact rfl) (W_ret ?_))
  exact ⟨.inr rfl, [.int .u64 (mulU a n)], by simp [a24, resV, resV1, mulU], by simp [a24, packV], rfl, .refl _⟩

def timesM (a : List (Int × Int)) (oa n : Int) : List (Int × Int) × Int := if mayL 0 a = true then (bothL (fun x _ => mulU x n) a [], mulU oa n) else ([], 0)

theorem Times_run (ta : Tag) (a : List (Int × Int)) (oa n : Int) (ha : (a.length : Int) < 2 ^ 39) (h : LS.Heap) :
    callD T 11 [.agg (formC ta a oa), .int .u64 n] h = some (.agg (formC .ro (timesM a oa n).1 (timesM a oa n).2), h) := by
  refine W_call t11 rfl rfl (by simp) ?_
  show W T c11 _ _
  unfold c11
  have hm := May_run .ro a oa (by omega) (h.new (.var [.int .u64 n]))
  have hd := both_run (times_do (h.new (.var [.int .u64 n])) h.next n (by simp [Heap.new]) (by simp [Heap.new, upd])) (by simp) .ro .nil a [] oa 0 ha (by simp)
  simp only [formC, terms_nil] at hm hd
  refine W_seq (W_ops (s1 := ?_) (by simp only [r11_0]; simp [formC, a11]; exact rfl) ?_)
  refine W_seq (W_seq (W_ops (s1 := ?_) (by simp only [r11_1]; simp [nextVer, hm]; exact rfl) ?_))
  by_cases hc : mayL 0 a = true
  · refine W_cond_f (by simp [hc]) (W_skip ?_)
    refine W_seq (W_ops (s1 := ?_) (by simp only [r11_3]; simp [nextVer, hd]; exact rfl) (W_ret ?_))
    exact ⟨.inr rfl, _, by simp [a11, resV, resV1, nextVer]; exact rfl, by simp [a11, packV, formC, timesM, hc], by simp [formC], .new _ _⟩
  · refine W_cond_t (by simp [hc]) ?_
    refine W_seq (W_ops (s1 := ?_) (by simp only [r11_2]; simp [nextVer]; exact rfl) (W_ret ?_))
    exact ⟨.inr rfl, _, by simp [a11, resV, resV1, nextVer]; exact rfl, by simp only [timesM]; rw [if_neg hc]; simp [a11, packV, formC, terms_nil], by simp [formC], .new _ _⟩

end Go.Proofs.YtcngflmnbdcppaaGreat

/- Forms: the document's wide forms, a scale for each value. -/
namespace Go.Proofs.YtcngflmnbdcppaaGreat
open Go.LS Go.IntWalk

/-- The cells of a wide form. -/
def wideC (g : Nat → Int) (off : Int) : List V := (List.range 1024).map (fun i => .int .u64 (g i)) ++ [.int .u64 off]

theorem wideC_len (g : Nat → Int) (off : Int) : (wideC g off).length = 1025 := by simp [wideC]
theorem wideC_get (g : Nat → Int) (off : Int) {i : Nat} (h : i < 1024) : (wideC g off)[i]? = some (.int .u64 (g i)) := by
  unfold wideC
  rw [List.getElem?_append_left (by simpa using h)]
  simp [h]
theorem wideC_off (g : Nat → Int) (off : Int) : (wideC g off)[1024]? = some (.int .u64 off) := by
  unfold wideC
  rw [List.getElem?_append_right (by simp)]
  simp

theorem wideC_patch (g : Nat → Int) (off : Int) {i : Nat} (h : i < 1024) (n : Int) : patch (wideC g off) i [.int .u64 n] = wideC (fun j => if j = i then n else g j) off := by
  apply List.ext_getElem?
  intro k
  unfold patch
  have hl := wideC_len g off
  by_cases h1 : k < i
  · rw [List.getElem?_append_left (by simp [hl]; omega), List.getElem?_take, if_pos h1, wideC_get _ _ (by omega), wideC_get _ _ (by omega)]
    simp [show k ≠ i by omega]
  · rw [List.getElem?_append_right (by simp [hl]; omega)]
    simp only [List.length_take, hl, show min i 1025 = i by omega]
    by_cases h2 : k = i
    · subst h2
      rw [wideC_get _ _ h]
      simp
    · rw [List.getElem?_append_right (by simp; omega), List.getElem?_drop]
      simp only [List.length_cons, List.length_nil]
      rw [show i + (0 + 1) + (k - i - (0 + 1)) = k by omega]
      by_cases h3 : k < 1024
      · rw [wideC_get _ _ h3, wideC_get _ _ h3]
        simp [h2]
      · by_cases h4 : k = 1024
        · subst h4; rw [wideC_off, wideC_off]
        · rw [List.getElem?_eq_none (by rw [wideC_len]; omega), List.getElem?_eq_none (by rw [wideC_len]; omega)]

theorem new_set (h : LS.Heap) (o o' : AObj) : (h.new o).set h.next o' = h.new o' := by
  simp only [Heap.new, Heap.set, Heap.mk.injEq, and_true]
  funext i
  simp only [upd]
  split <;> rfl

theorem wide_zero (off : Int) : fillV (List.replicate 1025 (V.int .u64 0)) [(1024, 1, V.int .u64 off)] = some (wideC (fun _ => 0) off) := by
  have e : List.replicate 1025 (V.int .u64 0) = wideC (fun _ => 0) 0 := by
    unfold wideC
    rw [List.map_const', List.length_range, ← List.replicate_succ']
  have hp : patch (wideC (fun _ => 0) 0) 1024 [V.int .u64 off] = wideC (fun _ => 0) off := by
    unfold patch wideC
    rw [List.take_append_of_le_length (by simp), List.take_of_length_le (by simp)]
    simp
  simp only [fillV, V.cells, List.length_cons, List.length_nil, if_true, List.length_replicate]
  rw [if_pos (by omega), e, hp]

/-- The scales of a form. -/
def scaleOf : List (Int × Int) → (Nat → Int) → Nat → Int
  | [], g => g
  | (v, s) :: l, g => scaleOf l (fun j => if j = v.toNat then s else g j)

def inRange (l : List (Int × Int)) : Prop := ∀ p ∈ l, 0 ≤ p.1 ∧ p.1 < 1024

theorem of_loop (l : List (Int × Int)) (off : Int) (hlen : (l.length : Int) < 2 ^ 62) (hr : inRange l) (h0 : LS.Heap) : ∀ (k i : Nat) (g : Nat → Int) (hk : l.length - i = k) (hi : i ≤ l.length) (t : Nat → V) (loc : LS.Loc)
    (h1 : t 1 = .loc 1 0 0) (l1 : loc 1 = some (0, [.lst .ro (terms l), .int .u64 off])) (h3 : t 3 = .obj h0.next 0) (h4 : t 4 = .int .i64 i),
    W T (.loop l26_0) ⟨t, loc, h0.new (.var (wideC g off))⟩ (fun e s => e = .exit 0 ∧ s.h = h0.new (.var (wideC (scaleOf (l.drop i) g) off)) ∧ s.t 3 = .obj h0.next 0)
  | 0, i, g, hk, hi, t, loc, h1, l1, h3, h4 => by
    have hlt : ¬ (i < l.length) := by omega
    refine W_loop' l26_0.eq_1 ?_
    refine W_seq (W_seq (W_ops (s1 := ?_) (by simp only [r26_3]; simp [h1, l1, h4, terms_len, hlt]; exact rfl) ?_))
    refine W_cond_f (by simp) (W_exit ⟨rfl, ?_, by simp [h3]⟩)
    rw [List.drop_eq_nil_of_le (by omega)]
    rfl
  | k + 1, i, g, hk, hi, t, loc, h1, l1, h3, h4 => by
    have hia : i < l.length := by omega
    have hw : IntKind.i64.wrap ((i : Int) + 1) = ((i + 1 : Nat) : Int) := by rw [i64_in _ (by omega)]; simp
    have ga := terms_at hia
    obtain ⟨r1, r2⟩ := hr l[i] (by simp)
    have hd : l.drop i = (l[i].1, l[i].2) :: l.drop (i + 1) := by rw [List.drop_eq_getElem_cons hia]
    have ho : (h0.new (.var (wideC g off))).objs h0.next = some (.var (wideC g off)) := by simp [Heap.new, upd]
    have hb : l[i].1.toNat + 1 ≤ (wideC g off).length := by rw [wideC_len]; omega
    have hp := wideC_patch g off (i := l[i].1.toNat) (by omega) l[i].2
    have hs := fun o => new_set h0 (.var (wideC g off)) o
    refine W_loop' l26_0.eq_1 ?_
    refine W_seq (W_seq (W_ops (s1 := ?_) (by simp only [r26_3]; simp [h1, l1, h4, terms_len, hia]; exact rfl) ?_))
    refine W_cond_t (by simp) (W_skip ?_)
    refine W_seq (W_block (W_tops (s1 := ?_) (by simp only [r26_5]; simp [-patch, h1, l1, h3, h4, ga, r1, r2, ho, hb, hp, hs]; exact rfl) ?_))
    refine W_ops (s1 := ?_) (by simp only [r26_4]; simp [h4, hw]; exact rfl) ?_
    rw [hd]
    exact of_loop l off hlen hr h0 k (i + 1) _ (by omega) (by omega) _ _ (by simp [h1]) l1 (by simp [h3]) (by simp)

theorem Of_run (ta : Tag) (l : List (Int × Int)) (off : Int) (hlen : (l.length : Int) < 2 ^ 62) (hr : inRange l) (h : LS.Heap) :
    callD T 26 [.agg (formC ta l off)] h = some (.obj h.next 0, h.new (.var (wideC (scaleOf l (fun _ => 0)) off))) := by
  refine W_callH t26 rfl rfl (by simp) ?_
  show W T c26 _ _
  unfold c26
  have hz := wide_zero off
  have hl := wideC_len (fun _ => 0) off
  refine W_seq (W_ops (s1 := ?_) (by simp only [r26_0]; simp [formC, a26]; exact rfl) ?_)
  refine W_seq (W_ops (s1 := ?_) (by simp only [r26_1]; simp [-fillV, -patch, -List.reduceReplicate, nextVer, hz, hl]; exact rfl) ?_)
  refine W_seq (W_seq (W_ops (s1 := ?_) (by simp only [r26_2]; simp; exact rfl) ?_))
  refine W_block ((of_loop l off hlen hr h l.length 0 (fun _ => 0) (by omega) (by omega) _ _ (by simp [nextVer]) (by simp [nextVer]) (by simp) (by simp)).mono ?_)
  rintro e ⟨t1, loc1, h1⟩ ⟨rfl, hh, ht⟩
  simp only [List.drop_zero] at hh ht
  subst hh
  refine W_seq (W_ops (s1 := ?_) (by simp only [r26_6]; simp [ht]; exact rfl) (W_ret ?_))
  exact ⟨.inr rfl, [.obj h.next 0], by simp [a26, resV, resV1], by simp [a26, packV], rfl⟩

end Go.Proofs.YtcngflmnbdcppaaGreat

/- Forms: the document's mix of two forms. -/
namespace Go.Proofs.YtcngflmnbdcppaaGreat
open Go.LS Go.IntWalk

/-- The terms of scales, from a value on, so many. -/
def termsFrom (g : Nat → Int) : Nat → Nat → List (Int × Int)
  | _, 0 => []
  | v, k + 1 => keepT v (g v) (termsFrom g (v + 1) k)

theorem form_loop (g : Nat → Int) (off : Int) (h0 : LS.Heap) (id : Nat) (hid : id < h0.next) (hob : h0.objs id = some (.var (wideC g off))) : ∀ (k v : Nat) (hk : v + k = 1024) (out : List (Int × Int)) (hout : out.length ≤ v) (t : Nat → V) (loc : LS.Loc) (h : LS.Heap) (a : V)
    (t0 : t 0 = .obj id 0) (t2 : t 2 = .loc 2 0 0) (t3 : t 3 = .loc 3 0 0) (t4 : t 4 = .int .i64 v) (l2 : loc 2 = some (0, [.lst .nil [], .int .u64 0])) (l3 : loc 3 = some (0, [a, .int .u64 off])) (ha : Acc 2 h0 h a (terms out)) (hx : HExt h0 h),
    W T (.loop l27_0) ⟨t, loc, h⟩ (fun e s => e = .exit 0 ∧ s.t 2 = .loc 2 0 0 ∧ s.t 3 = .loc 3 0 0 ∧ s.loc 2 = some (0, [.lst .nil [], .int .u64 0]) ∧ (∃ a, s.loc 3 = some (0, [a, .int .u64 off]) ∧ Acc 2 h0 s.h a (terms (out ++ termsFrom g v k))) ∧ HExt h0 s.h)
  | 0, v, hk, out, hout, t, loc, h, a, t0, t2, t3, t4, l2, l3, ha, hx => by
    have hlt : ¬ ((v : Int) < 1024) := by omega
    refine W_loop' l27_0.eq_1 ?_
    refine W_seq (W_seq (W_ops (s1 := ?_) (by simp only [r27_3]; simp [t4, hlt]; exact rfl) ?_))
    refine W_cond_f (by simp) (W_exit ⟨rfl, by simp [t2], by simp [t3], l2, ⟨a, l3, ?_⟩, hx⟩)
    simp only [termsFrom, List.append_nil]
    exact ha
  | k + 1, v, hk, out, hout, t, loc, h, a, t0, t2, t3, t4, l2, l3, ha, hx => by
    have hlt : ((v : Int) < 1024) := by omega
    have hltn : v < 1024 := by omega
    have hw : IntKind.i64.wrap ((v : Int) + 1) = ((v + 1 : Nat) : Int) := by rw [i64_in _ (by omega)]; simp
    have ho : h.objs id = some (.var (wideC g off)) := by rw [hx.2 id hid]; exact hob
    have gv := wideC_get g off hltn
    refine W_loop' l27_0.eq_1 ?_
    refine W_seq (W_seq (W_ops (s1 := ?_) (by simp only [r27_3]; simp [t4, hlt]; exact rfl) ?_))
    refine W_cond_t (by simp) (W_skip ?_)
    refine W_seq (W_block (W_seq (W_ops (s1 := ?_) (by simp only [r27_5]; simp [t0, t4, hlt, hltn, ho, gv]; exact rfl) ?_)))
    by_cases hg : g v = 0
    · refine W_cond_f (by simp [hg]) (W_skip ?_)
      refine W_ops (s1 := ?_) (by simp only [r27_4]; simp [t4, hw]; exact rfl) ?_
      simp only [termsFrom, keepT, hg, if_true]
      exact form_loop g off h0 id hid hob k (v + 1) (by omega) out (by omega) _ _ h a (by simp [t0]) (by simp [t2]) (by simp [t3]) (by simp) l2 l3 ha hx
    · obtain ⟨a', h', e1, e2, e3⟩ := ha.append (bytes := 16) (m := [[.int .i64 v, .int .u64 (g v)]]) (tg := .exact) hx (by simp) (by simp [okSize]) (terms_ok _) (by simp [terms_len]; omega)
      obtain ⟨tk, rfl, e4⟩ : ∃ tk, a' = .lst (.own tk) (terms out ++ [[.int .i64 v, .int .u64 (g v)]]) ∧ h'.objs tk = some (.tok (terms out ++ [[V.int .i64 v, V.int .u64 (g v)]]).length 2) ∧ h0.next ≤ tk := by
        rcases e2 with ⟨h9, _⟩ | h9
        · simp at h9
        · exact h9
      refine W_cond_t (by simp [hg]) (W_tops (s1 := ?_) (by simp only [r27_6]; simp [t0, t3, t4, l3, hlt, hltn, ho, gv, e1]; exact rfl) ?_)
      refine W_ops (s1 := ?_) (by simp only [r27_4]; simp [t4, hw]; exact rfl) ?_
      simp only [termsFrom, keepT, hg, if_false]
      rw [show out ++ ((v : Int), g v) :: termsFrom g (v + 1) k = (out ++ [((v : Int), g v)]) ++ termsFrom g (v + 1) k by simp]
      exact form_loop g off h0 id hid hob k (v + 1) (by omega) (out ++ [((v : Int), g v)]) (by simp; omega) _ _ h' (.lst (.own tk) (terms out ++ [[.int .i64 v, .int .u64 (g v)]])) (by simp [t0]) (by simp [t2]) (by simp [t3]) (by simp) (by simp [l2]) (by simp) (.inr ⟨tk, by simp [terms], by simpa [terms] using e4.1, e4.2⟩) e3

theorem Form_run (g : Nat → Int) (off : Int) (h : LS.Heap) (id : Nat) (hid : id < h.next) (hob : h.objs id = some (.var (wideC g off))) :
    callD T 27 [.obj id 0] h = some (.agg (formC .ro (termsFrom g 0 1024) off), h) := by
  refine W_call t27 rfl rfl (by simp) ?_
  show W T c27 _ _
  unfold c27
  have go := wideC_off g off
  refine W_seq (W_ops (s1 := ?_) (by simp only [r27_0]; simp [a27]; exact rfl) ?_)
  refine W_seq (W_ops (s1 := ?_) (by simp only [r27_1]; simp [hob, go, nextVer]; exact rfl) ?_)
  refine W_seq (W_seq (W_ops (s1 := ?_) (by simp only [r27_2]; simp; exact rfl) ?_))
  refine W_block ((form_loop g off h id hid hob 1024 0 (by omega) [] (by simp) _ _ h (.lst .nil []) (by simp) (by simp [nextVer]) (by simp [nextVer]) (by simp) (by simp [nextVer]) (by simp [nextVer]) (.nil _ _ _) (.refl h)).mono ?_)
  rintro e ⟨t1, loc1, h1⟩ ⟨rfl, t2, t3, l2, ⟨a, l3, ha⟩, hx⟩
  simp only at t2 t3 l2 l3 ha hx
  refine W_seq (W_ops (s1 := ?_) (by simp only [r27_7]; simp [t2, t3, l2, l3]; exact rfl) (W_ret ?_))
  have hr := ha.retag
  simp only [List.nil_append] at hr
  refine ⟨.inr rfl, [.agg [a, .int .u64 off]], by simp [a27, resV, resV1, t2], ?_, by simp [formC], hx⟩
  simp [a27, packV, formC, hr]

end Go.Proofs.YtcngflmnbdcppaaGreat

/- Forms: the document's mix of two forms. -/
namespace Go.Proofs.YtcngflmnbdcppaaGreat
open Go.LS Go.IntWalk

def mixU (a n b m : Int) : Int := addU (mulU a n) (mulU b m)

theorem wideC_congr {g g' : Nat → Int} {off : Int} (h : ∀ j, j < 1024 → g j = g' j) : wideC g off = wideC g' off := by
  unfold wideC
  rw [List.map_congr_left (fun j hj => by rw [h j (List.mem_range.1 hj)])]

theorem mix_loop (gb : Nat → Int) (oa ob n m : Int) (ia ib : Nat) (hab : ia ≠ ib) : ∀ (k v : Nat) (hk : v + k = 1024) (ga : Nat → Int) (t : Nat → V) (loc : LS.Loc) (h : LS.Heap)
    (t1 : t 1 = .int .u64 n) (t3 : t 3 = .int .u64 m) (t9 : t 9 = .obj ia 0) (t10 : t 10 = .obj ib 0) (t11 : t 11 = .int .i64 v) (t8 : t 8 = .loc 8 0 0)
    (ha : h.objs ia = some (.var (wideC ga oa))) (hb : h.objs ib = some (.var (wideC gb ob))),
    W T (.loop l16_0) ⟨t, loc, h⟩ (fun e s => e = .exit 0 ∧ s.t 1 = .int .u64 n ∧ s.t 3 = .int .u64 m ∧ s.t 9 = .obj ia 0 ∧ s.t 10 = .obj ib 0 ∧ s.t 8 = .loc 8 0 0 ∧ s.loc = loc ∧ s.h.next = h.next ∧
      s.h.objs ia = some (.var (wideC (fun j => if v ≤ j then mixU (ga j) n (gb j) m else ga j) oa)) ∧ s.h.objs ib = some (.var (wideC gb ob)) ∧ ∀ id, id ≠ ia → s.h.objs id = h.objs id)
  | 0, v, hk, ga, t, loc, h, t1, t3, t9, t10, t11, t8, ha, hb => by
    have hlt : ¬ ((v : Int) < 1024) := by omega
    refine W_loop' l16_0.eq_1 ?_
    refine W_seq (W_seq (W_ops (s1 := ?_) (by simp only [r16_4]; simp [t11, hlt]; exact rfl) ?_))
    refine W_cond_f (by simp) (W_exit ⟨rfl, by simp [t1], by simp [t3], by simp [t9], by simp [t10], by simp [t8], rfl, rfl, ?_, hb, fun _ _ => rfl⟩)
    rw [ha, wideC_congr (fun j hj => (if_neg (show ¬ v ≤ j by omega)).symm)]
  | k + 1, v, hk, ga, t, loc, h, t1, t3, t9, t10, t11, t8, ha, hb => by
    have hlt : ((v : Int) < 1024) := by omega
    have hltn : v < 1024 := by omega
    have hw : IntKind.i64.wrap ((v : Int) + 1) = ((v + 1 : Nat) : Int) := by rw [i64_in _ (by omega)]; simp
    have g1 := wideC_get ga oa hltn
    have g2 := wideC_get gb ob hltn
    have hbd : v + 1 ≤ (wideC ga oa).length := by rw [wideC_len]; omega
    have hp := wideC_patch ga oa hltn (mixU (ga v) n (gb v) m)
    unfold mixU addU mulU at hp
    refine W_loop' l16_0.eq_1 ?_
    refine W_seq (W_seq (W_ops (s1 := ?_) (by simp only [r16_4]; simp [t11, hlt]; exact rfl) ?_))
    refine W_cond_t (by simp) (W_skip ?_)
    refine W_seq (W_block (W_tops (s1 := ?_) (by simp only [r16_6]; simp [-patch, t1, t3, t9, t10, t11, hlt, hltn, ha, hb, g1, g2, hbd, hp]; exact rfl) ?_))
    refine W_ops (s1 := ?_) (by simp only [r16_5]; simp [t11, hw]; exact rfl) ?_
    refine (mix_loop gb oa ob n m ia ib hab k (v + 1) (by omega) (fun j => if j = v then IntKind.u64.wrap (IntKind.u64.wrap (ga v * n) + IntKind.u64.wrap (gb v * m)) else ga j) _ loc _ (by simp [t1]) (by simp [t3]) (by simp [t9]) (by simp [t10]) (by simp) (by simp [t8]) (by simp only [Heap.set, upd, if_true]) (by simp only [Heap.set, upd]; rw [if_neg (Ne.symm hab)]; exact hb)).mono ?_
    rintro e s ⟨rfl, s1, s3, s9, s10, s8, sl, sn, sa, sb, so⟩
    refine ⟨rfl, s1, s3, s9, s10, s8, sl, by rw [sn]; rfl, ?_, sb, fun id hne => by rw [so id hne]; simp only [Heap.set, upd]; rw [if_neg hne]⟩
    rw [sa]
    refine congrArg (fun x => some (AObj.var x)) (wideC_congr (fun j hj => ?_))
    by_cases h1 : j = v
    · subst h1
      rw [if_neg (show ¬ j + 1 ≤ j by omega)]
      simp [mixU, addU, mulU]
    · by_cases h2 : v + 1 ≤ j
      · rw [if_pos h2, if_pos (show v ≤ j by omega), if_neg h1]
      · rw [if_neg h2, if_neg (show ¬ v ≤ j by omega), if_neg h1]

theorem wideC_patch_off (g : Nat → Int) (off n : Int) : patch (wideC g off) 1024 [.int .u64 n] = wideC g n := by
  unfold patch wideC
  rw [List.take_append_of_le_length (by simp), List.take_of_length_le (by simp)]
  simp

/-- The mix of two forms. -/
def mixM (a : List (Int × Int)) (n : Int) (b : List (Int × Int)) (m : Int) : List (Int × Int) := termsFrom (fun j => mixU (scaleOf a (fun _ => 0) j) n (scaleOf b (fun _ => 0) j) m) 0 1024

theorem Mix_run (ta tb : Tag) (a b : List (Int × Int)) (oa ob n m : Int) (ha : (a.length : Int) < 2 ^ 62) (hb : (b.length : Int) < 2 ^ 62) (hra : inRange a) (hrb : inRange b) (h : LS.Heap) :
    callD T 16 [.agg (formC ta a oa), .int .u64 n, .agg (formC tb b ob), .int .u64 m] h = some (.agg (formC .ro (mixM a n b m) (mixU oa n ob m)), h) := by
  refine W_call t16 rfl rfl (by simp) ?_
  show W T c16 _ _
  unfold c16
  have e1 := Of_run .ro a oa ha hra h
  have e2 := Of_run .ro b ob hb hrb (h.new (.var (wideC (scaleOf a (fun _ => 0)) oa)))
  simp only [formC] at e1 e2
  refine W_seq (W_ops (s1 := ?_) (by simp only [r16_0]; simp [formC, a16]; exact rfl) ?_)
  refine W_seq (W_ops (s1 := ?_) (by simp only [r16_1]; simp [nextVer, e1]; exact rfl) ?_)
  refine W_seq (W_ops (s1 := ?_) (by simp only [r16_2]; simp [nextVer, e2]; exact rfl) ?_)
  refine W_seq (W_seq (W_ops (s1 := ?_) (by simp only [r16_3]; simp; exact rfl) ?_))
  have n1 : (h.new (.var (wideC (scaleOf a (fun _ => 0)) oa))).next = h.next + 1 := rfl
  refine W_block ((mix_loop (scaleOf b (fun _ => 0)) oa ob n m h.next (h.next + 1) (by omega) 1024 0 (by omega) (scaleOf a (fun _ => 0)) _ _ _ (by simp) (by simp) (by simp) (by simp [n1]) (by simp) (by simp [nextVer])
    (by simp [Heap.new, upd]) (by simp [Heap.new, upd])).mono ?_)
  rintro e ⟨t1, loc1, h1⟩ ⟨rfl, s1, s3, s9, s10, s8, sl, sn, sa, sb, so⟩
  simp only at s1 s3 s9 s10 s8 sl sn sa sb so
  have hgm : ∃ gm : Nat → Int, h1.objs h.next = some (.var (wideC gm oa)) ∧ termsFrom gm 0 1024 = mixM a n b m := by
    refine ⟨_, sa, ?_⟩
    simp only [Nat.zero_le, if_true]
    rfl
  obtain ⟨gm, sa', hmix⟩ := hgm
  have g1 := wideC_off gm oa
  have g2 := wideC_off (scaleOf b (fun _ => 0)) ob
  have hl := wideC_len gm oa
  have hp := wideC_patch_off gm oa (mixU oa n ob m)
  unfold mixU addU mulU at hp
  have hf := Form_run gm (mixU oa n ob m) (h1.set h.next (.var (wideC gm (mixU oa n ob m)))) h.next (by rw [show (h1.set h.next (.var (wideC gm (mixU oa n ob m)))).next = h1.next from rfl, sn]; simp [Heap.new]; omega) (by simp only [Heap.set, upd, if_true])
  rw [hmix] at hf
  unfold mixU addU mulU at hf
  simp only [formC] at hf
  generalize wideC (scaleOf b fun _ => 0) ob = cb at *
  generalize hca : wideC gm oa = ca at *
  generalize wideC gm (IntKind.u64.wrap (IntKind.u64.wrap (oa * n) + IntKind.u64.wrap (ob * m))) = cc at *
  obtain ⟨p1, g1'⟩ := List.getElem?_eq_some_iff.1 g1
  refine W_seq (W_tops (s1 := ?_) (by simp only [r16_7]; simp [-patch, s1, s3, s9, s10, sa', sb, g1, g1', g2, hl, hp]; exact rfl) ?_)
  refine W_seq (W_ops (s1 := ?_) (by simp only [r16_8]; simp [s9, s8, sl, hf, nextVer]; exact rfl) (W_ret ?_))
  refine ⟨.inr rfl, _, by simp [a16, resV, resV1, s8]; exact rfl, by simp [a16, packV, formC, mixU, addU, mulU], by simp [formC], ?_⟩
  refine ⟨?_, fun id hid => ?_⟩
  · show h.next ≤ h1.next
    rw [sn]; simp [Heap.new]; omega
  · simp only [Heap.set, upd]
    rw [if_neg (by omega), so id (by omega)]
    simp only [Heap.new, upd]
    rw [if_neg (by omega), if_neg (by omega)]

end Go.Proofs.YtcngflmnbdcppaaGreat

/- Forms: what is done term by term is what is done to the scales of each value: plain Lean, no program. -/
namespace Go.Proofs.YtcngflmnbdcppaaGreat
open Go.LS Go.IntWalk

/-- The scale of a value. -/
def look : List (Int × Int) → Nat → Int
  | [], _ => 0
  | (v, s) :: l, j => if (j : Int) = v then s else look l j

/-- Values rise, from 'last' on; scales are not nothing. -/
def Rising : Int → List (Int × Int) → Prop
  | _, [] => True
  | last, (v, s) :: l => last < v ∧ v < 1024 ∧ s ≠ 0 ∧ Rising v l

theorem rising_of_may : ∀ {l : List (Int × Int)} {last : Int}, mayL last l = true → Rising last l
  | [], _, _ => trivial
  | (v, s) :: l, last, h => by
    simp only [mayL] at h
    split at h
    · cases h
    · rename_i hn
      exact ⟨by omega, by omega, by omega, rising_of_may h⟩

theorem Rising.mono : ∀ {l : List (Int × Int)} {a b : Int}, Rising a l → b ≤ a → Rising b l
  | [], _, _, _, _ => trivial
  | (v, s) :: l, a, b, h, hb => ⟨by have := h.1; omega, h.2⟩

theorem look_below : ∀ {l : List (Int × Int)} {last : Int} {j : Nat}, Rising last l → (j : Int) ≤ last → look l j = 0
  | [], _, _, _, _ => rfl
  | (v, s) :: l, last, j, h, hj => by
    have h1 := h.1
    simp only [look]
    rw [if_neg (by omega)]
    exact look_below h.2.2.2 (by omega)

theorem scaleOf_look : ∀ {l : List (Int × Int)} {last : Int} (g : Nat → Int) (j : Nat), Rising last l → 0 ≤ last → scaleOf l g j = if look l j = 0 then g j else look l j
  | [], _, g, j, _, _ => by simp [scaleOf, look]
  | (v, s) :: l, last, g, j, h, h0 => by
    obtain ⟨h1, h2, h3, h4⟩ := h
    have e1 : scaleOf ((v, s) :: l) g j = scaleOf l (fun j => if j = v.toNat then s else g j) j := rfl
    rw [e1, scaleOf_look _ j h4 (by omega)]
    by_cases hj : (j : Int) = v
    · have hz := look_below (j := j) h4 (by omega)
      have e2 : look ((v, s) :: l) j = s := by simp [look, hj]
      rw [e2, hz]
      simp [h3, show j = v.toNat by omega]
    · have e2 : look ((v, s) :: l) j = look l j := by simp [look, hj]
      rw [e2]
      simp [show ¬ j = v.toNat by omega]

theorem scaleOf_zero {l : List (Int × Int)} (h : Rising 0 l) (j : Nat) : scaleOf l (fun _ => 0) j = look l j := by
  rw [scaleOf_look _ j h (by omega)]
  split <;> simp_all

theorem termsFrom_congr {g g' : Nat → Int} : ∀ (k v : Nat), (∀ j, v ≤ j → j < v + k → g j = g' j) → termsFrom g v k = termsFrom g' v k
  | 0, _, _ => rfl
  | k + 1, v, h => by
    simp only [termsFrom]
    rw [h v (by omega) (by omega), termsFrom_congr k (v + 1) (fun j h1 h2 => h j (by omega) (by omega))]

theorem bothL_terms {f : Int → Int → Int} (hf : f 0 0 = 0) : ∀ (k v : Nat) (hv : v + k = 1024) (x y : List (Int × Int)), Rising ((v : Int) - 1) x → Rising ((v : Int) - 1) y →
    bothL f x y = termsFrom (fun j => f (look x j) (look y j)) v k
  | 0, v, hv, x, y, hx, hy => by
    have ex : x = [] := by
      cases x with
      | nil => rfl
      | cons p x => obtain ⟨a, s⟩ := p; have := hx.1; have := hx.2.1; omega
    have ey : y = [] := by
      cases y with
      | nil => rfl
      | cons p x => obtain ⟨a, s⟩ := p; have := hy.1; have := hy.2.1; omega
    subst ex ey
    rw [bothL]
    rfl
  | k + 1, v, hv, x, y, hx, hy => by
    simp only [termsFrom]
    have up : ∀ {l : List (Int × Int)}, Rising ((v : Int) - 1) l → (∀ s l', l = ((v : Int), s) :: l' → False) → Rising (((v + 1 : Nat) : Int) - 1) l := by
      intro l hl hn
      cases l with
      | nil => trivial
      | cons p l =>
        obtain ⟨a, s⟩ := p
        refine ⟨?_, hl.2⟩
        have h1 := hl.1
        have : a ≠ v := fun e => hn s l (by rw [e])
        omega
    have tl : ∀ {s : Int} {l : List (Int × Int)}, Rising ((v : Int) - 1) (((v : Int), s) :: l) → Rising (((v + 1 : Nat) : Int) - 1) l := fun {s l} h => h.2.2.2.mono (by omega)
    have lk : ∀ {l : List (Int × Int)}, Rising (((v + 1 : Nat) : Int) - 1) l → look l v = 0 := fun {l} h => look_below h (by omega)
    have skip : ∀ {s : Int} {l : List (Int × Int)} (j : Nat), v + 1 ≤ j → look (((v : Int), s) :: l) j = look l j := fun {s l} j hj => by simp only [look]; rw [if_neg (by omega)]
    have hd : ∀ {s : Int} {l : List (Int × Int)}, look (((v : Int), s) :: l) v = s := fun {s l} => by simp [look]
    by_cases cx : ∃ s x', x = ((v : Int), s) :: x'
    · obtain ⟨s, x', rfl⟩ := cx
      have rx := tl hx
      by_cases cy : ∃ r y', y = ((v : Int), r) :: y'
      · obtain ⟨r, y', rfl⟩ := cy
        have ry := tl hy
        rw [bothL, if_neg (by omega), if_neg (by omega), bothL_terms hf k (v + 1) (by omega) x' y' rx ry, hd, hd]
        congr 1
        exact termsFrom_congr k (v + 1) (fun j h1 h2 => by rw [skip j h1, skip j h1])
      · have ry := up hy (fun r y' e => cy ⟨r, y', e⟩)
        have e : bothL f (((v : Int), s) :: x') y = keepT v (f s 0) (bothL f x' y) := by
          cases y with
          | nil => rw [bothL]
          | cons p y =>
            obtain ⟨w, r⟩ := p
            have := ry.1
            rw [bothL, if_pos (by omega)]
        rw [e, bothL_terms hf k (v + 1) (by omega) x' y rx ry, hd, lk ry]
        congr 1
        exact termsFrom_congr k (v + 1) (fun j h1 h2 => by rw [skip j h1])
    · have rx := up hx (fun s x' e => cx ⟨s, x', e⟩)
      by_cases cy : ∃ r y', y = ((v : Int), r) :: y'
      · obtain ⟨r, y', rfl⟩ := cy
        have ry := tl hy
        have e : bothL f x (((v : Int), r) :: y') = keepT v (f 0 r) (bothL f x y') := by
          cases x with
          | nil => rw [bothL]
          | cons p x =>
            obtain ⟨w, s⟩ := p
            have := rx.1
            rw [bothL, if_neg (by omega), if_pos (by omega)]
        rw [e, bothL_terms hf k (v + 1) (by omega) x y' rx ry, hd, lk rx]
        congr 1
        exact termsFrom_congr k (v + 1) (fun j h1 h2 => by rw [skip j h1])
      · have ry := up hy (fun r y' e => cy ⟨r, y', e⟩)
        rw [lk rx, lk ry, hf, bothL_terms hf k (v + 1) (by omega) x y rx ry]
        simp [keepT]

end Go.Proofs.YtcngflmnbdcppaaGreat

/- Forms: sums, differences and so many times, as the document mixes them, and their ring laws: plain Lean, no program. -/
namespace Go.Proofs.YtcngflmnbdcppaaGreat
open Go.LS Go.IntWalk

theorem u64_wrap (n : Int) : IntKind.u64.wrap n = n % 18446744073709551616 := by simp [IntKind.wrap, IntKind.bits, IntKind.signed]

/-- Scales are of 64 bits. -/
def Narrow (l : List (Int × Int)) : Prop := ∀ p ∈ l, 0 ≤ p.2 ∧ p.2 < 18446744073709551616

theorem look_narrow : ∀ {l : List (Int × Int)} (j : Nat), Narrow l → 0 ≤ look l j ∧ look l j < 18446744073709551616
  | [], _, _ => by simp [look]
  | (v, s) :: l, j, h => by
    simp only [look]
    split
    · exact h _ (List.mem_cons_self ..)
    · exact look_narrow j (fun p hp => h p (List.mem_cons_of_mem _ hp))

theorem inRange_of_rising : ∀ {l : List (Int × Int)} {last : Int}, 0 ≤ last → Rising last l → inRange l
  | [], _, _, _ => fun p hp => by cases hp
  | (v, s) :: l, last, h0, h => fun p hp => by
    rcases List.mem_cons.1 hp with rfl | hp
    · exact ⟨by have := h.1; simp only; omega, h.2.1⟩
    · exact inRange_of_rising (by have := h.1; omega) h.2.2.2 p hp

theorem rising_top {l : List (Int × Int)} (h : Rising 0 l) : Rising (((0 : Nat) : Int) - 1) l := h.mono (by omega)

theorem addU_mix {a b : Int} (ha : 0 ≤ a ∧ a < 18446744073709551616) (hb : 0 ≤ b ∧ b < 18446744073709551616) : addU a b = mixU a 1 b 1 := by
  unfold addU mixU addU mulU
  rw [u64_wrap, u64_wrap, u64_wrap, u64_wrap]; omega
theorem subU_mix {a b : Int} (ha : 0 ≤ a ∧ a < 18446744073709551616) (hb : 0 ≤ b ∧ b < 18446744073709551616) : subU a b = mixU a 1 b 18446744073709551615 := by
  unfold subU mixU addU mulU
  rw [u64_wrap, u64_wrap, u64_wrap, u64_wrap]; omega
theorem mulU_mix {a n : Int} : mulU a n = mixU a n 0 0 := by
  unfold mixU addU mulU
  rw [u64_wrap, u64_wrap, u64_wrap]; omega

theorem plus_mix {a b : List (Int × Int)} (ha : Rising 0 a) (hb : Rising 0 b) (na : Narrow a) (nb : Narrow b) : bothL addU a b = mixM a 1 b 1 := by
  rw [bothL_terms rfl 1024 0 rfl a b (rising_top ha) (rising_top hb)]
  unfold mixM
  refine termsFrom_congr _ _ (fun j _ _ => ?_)
  rw [scaleOf_zero ha, scaleOf_zero hb, addU_mix (look_narrow j na) (look_narrow j nb)]
theorem minus_mix {a b : List (Int × Int)} (ha : Rising 0 a) (hb : Rising 0 b) (na : Narrow a) (nb : Narrow b) : bothL subU a b = mixM a 1 b 18446744073709551615 := by
  rw [bothL_terms rfl 1024 0 rfl a b (rising_top ha) (rising_top hb)]
  unfold mixM
  refine termsFrom_congr _ _ (fun j _ _ => ?_)
  rw [scaleOf_zero ha, scaleOf_zero hb, subU_mix (look_narrow j na) (look_narrow j nb)]
theorem times_mix {a : List (Int × Int)} (n : Int) (ha : Rising 0 a) : bothL (fun x _ => mulU x n) a [] = mixM a n [] 0 := by
  rw [bothL_terms (by simp [mulU, u64_wrap]) 1024 0 rfl a [] (rising_top ha) trivial]
  unfold mixM
  refine termsFrom_congr _ _ (fun j _ _ => ?_)
  rw [scaleOf_zero ha, scaleOf_zero (l := []) trivial, mulU_mix]
  rfl

/-! ### what is made of scales may be -/

theorem mayL_termsFrom (g : Nat → Int) : ∀ (k v : Nat) (last : Int), v + k = 1024 → (last < v ∨ (g v = 0 ∧ last ≤ v)) → mayL last (termsFrom g v k) = true
  | 0, _, _, _, _ => rfl
  | k + 1, v, last, hv, hl => by
    simp only [termsFrom, keepT]
    split
    · exact mayL_termsFrom g k (v + 1) last (by omega) (by omega)
    · rename_i hz
      simp only [mayL]
      rw [if_neg (by omega)]
      exact mayL_termsFrom g k (v + 1) v (by omega) (by omega)

theorem termsFrom_zero : ∀ (k v : Nat), termsFrom (fun _ => 0) v k = []
  | 0, _ => rfl
  | k + 1, v => by simp [termsFrom, keepT, termsFrom_zero k (v + 1)]

theorem look_termsFrom (g : Nat → Int) : ∀ (k v j : Nat), look (termsFrom g v k) j = if v ≤ j ∧ j < v + k then g j else 0
  | 0, v, j => by simp [termsFrom, look]; omega
  | k + 1, v, j => by
    have ih := look_termsFrom g k (v + 1) j
    simp only [termsFrom, keepT]
    split
    · rename_i hz
      rw [ih]
      by_cases hj : j = v
      · subst hj; simp [hz]
      · by_cases h1 : v ≤ j ∧ j < v + (k + 1)
        · rw [if_pos h1, if_pos (by omega)]
        · rw [if_neg h1, if_neg (by omega)]
    · simp only [look]
      by_cases hj : j = v
      · subst hj; simp
      · rw [if_neg (by omega), ih]
        by_cases h1 : v ≤ j ∧ j < v + (k + 1)
        · rw [if_pos h1, if_pos (by omega)]
        · rw [if_neg h1, if_neg (by omega)]

theorem narrow_termsFrom {g : Nat → Int} (hg : ∀ j, 0 ≤ g j ∧ g j < 18446744073709551616) : ∀ (k v : Nat), Narrow (termsFrom g v k)
  | 0, _ => fun p hp => by cases hp
  | k + 1, v => fun p hp => by
    simp only [termsFrom, keepT] at hp
    split at hp
    · exact narrow_termsFrom hg k (v + 1) p hp
    · rcases List.mem_cons.1 hp with rfl | hp
      · exact hg v
      · exact narrow_termsFrom hg k (v + 1) p hp

theorem termsFrom_len (g : Nat → Int) : ∀ (k v : Nat), (termsFrom g v k).length ≤ k
  | 0, _ => by simp [termsFrom]
  | k + 1, v => by
    have := termsFrom_len g k (v + 1)
    simp only [termsFrom, keepT]
    split
    · omega
    · simp; omega

/-- A list that rises is what its scales make. -/
theorem terms_of_look : ∀ {l : List (Int × Int)}, Rising 0 l → l = termsFrom (look l) 0 1024 := by
  intro l h
  have h1 := bothL_terms (f := fun a _ => a) rfl 1024 0 rfl l [] (rising_top h) trivial
  have h2 : ∀ (l : List (Int × Int)) (last : Int), Rising last l → bothL (fun a _ => a) l [] = l := by
    intro l
    induction l with
    | nil => intro _ _; rw [bothL]
    | cons p l ih =>
      obtain ⟨v, s⟩ := p
      intro last h
      rw [bothL, ih _ h.2.2.2, keepT, if_neg h.2.2.1]
  rw [h2 l 0 h] at h1
  exact h1

/-- Two lists that rise, of the same scales, are the same. -/
theorem same_of_look {a b : List (Int × Int)} (ha : Rising 0 a) (hb : Rising 0 b) (h : ∀ j, j < 1024 → look a j = look b j) : a = b := by
  rw [terms_of_look ha, terms_of_look hb]
  exact termsFrom_congr _ _ (fun j _ hj => h j (by omega))

/-- What a mix is: it may be, its scales, its length. -/
theorem both_facts {f : Int → Int → Int} (hf : f 0 0 = 0) (hfr : ∀ a b, 0 ≤ f a b ∧ f a b < 18446744073709551616) {a b : List (Int × Int)} (ha : Rising 0 a) (hb : Rising 0 b) :
    mayL 0 (bothL f a b) = true ∧ Narrow (bothL f a b) ∧ (bothL f a b).length ≤ 1024 ∧ ∀ j, j < 1024 → look (bothL f a b) j = f (look a j) (look b j) := by
  have h := bothL_terms hf 1024 0 rfl a b (rising_top ha) (rising_top hb)
  rw [h]
  refine ⟨mayL_termsFrom _ _ _ _ rfl (.inr ⟨?_, by omega⟩), narrow_termsFrom (fun j => hfr _ _) _ _, termsFrom_len _ _ _, fun j hj => ?_⟩
  · have e1 := look_below (j := 0) ha (by omega)
    have e2 := look_below (j := 0) hb (by omega)
    rw [e1, e2, hf]
  · rw [look_termsFrom, if_pos (by omega)]

theorem addU_range (a b : Int) : 0 ≤ addU a b ∧ addU a b < 18446744073709551616 := by unfold addU; rw [u64_wrap]; omega
theorem subU_range (a b : Int) : 0 ≤ subU a b ∧ subU a b < 18446744073709551616 := by unfold subU; rw [u64_wrap]; omega
theorem mulU_range (a b : Int) : 0 ≤ mulU a b ∧ mulU a b < 18446744073709551616 := by unfold mulU; rw [u64_wrap]; omega

theorem addU_comm (a b : Int) : addU a b = addU b a := by unfold addU; rw [Int.add_comm]
theorem subU_self (a : Int) : subU a a = 0 := by unfold subU; simp [u64_wrap]
theorem mulU_add (a b n : Int) : mulU (addU a b) n = addU (mulU a n) (mulU b n) := by
  unfold addU mulU
  simp only [u64_wrap]
  rw [← Int.add_emod, ← Int.add_mul, Int.mul_emod, Int.emod_emod, ← Int.mul_emod]
theorem subU_addU {a b : Int} (ha : 0 ≤ a ∧ a < 18446744073709551616) : subU (addU a b) b = a := by
  unfold subU addU; rw [u64_wrap, u64_wrap]; omega
theorem mulU_one {a : Int} (ha : 0 ≤ a ∧ a < 18446744073709551616) : mulU a 1 = a := by unfold mulU; rw [u64_wrap]; omega
theorem mulU_zero (a : Int) : mulU a 0 = 0 := by unfold mulU; rw [u64_wrap]; omega

theorem mayL_rising {l : List (Int × Int)} (h : mayL 0 l = true) : Rising 0 l := rising_of_may h

/-- The ring laws of forms that may be. -/
theorem ring_laws {a b : List (Int × Int)} (ha : mayL 0 a = true) (hb : mayL 0 b = true) (na : Narrow a) (nb : Narrow b) (n : Int) :
    bothL addU a b = bothL addU b a ∧ bothL subU a a = [] ∧ bothL (fun x _ => mulU x n) (bothL addU a b) [] = bothL addU (bothL (fun x _ => mulU x n) a []) (bothL (fun x _ => mulU x n) b []) ∧
    bothL subU (bothL addU a b) b = a ∧ bothL (fun x _ => mulU x 1) a [] = a ∧ bothL (fun x _ => mulU x 0) a [] = [] := by
  have ra := mayL_rising ha
  have rb := mayL_rising hb
  have rn : Rising 0 [] := trivial
  have ln : ∀ j, look [] j = 0 := fun _ => rfl
  obtain ⟨s1, s2, s3, s4⟩ := both_facts (f := addU) rfl addU_range ra rb
  obtain ⟨t1, t2, t3, t4⟩ := both_facts (f := addU) rfl addU_range rb ra
  obtain ⟨m1, m2, m3, m4⟩ := both_facts (f := subU) rfl subU_range ra ra
  obtain ⟨x1, x2, x3, x4⟩ := both_facts (f := fun x _ => mulU x n) (by simp [mulU, u64_wrap]) (fun a _ => mulU_range a n) ra rn
  obtain ⟨y1, y2, y3, y4⟩ := both_facts (f := fun x _ => mulU x n) (by simp [mulU, u64_wrap]) (fun a _ => mulU_range a n) rb rn
  obtain ⟨z1, z2, z3, z4⟩ := both_facts (f := fun x _ => mulU x n) (by simp [mulU, u64_wrap]) (fun a _ => mulU_range a n) (mayL_rising s1) rn
  obtain ⟨w1, w2, w3, w4⟩ := both_facts (f := addU) rfl addU_range (mayL_rising x1) (mayL_rising y1)
  obtain ⟨d1, d2, d3, d4⟩ := both_facts (f := subU) rfl subU_range (mayL_rising s1) rb
  obtain ⟨o1, o2, o3, o4⟩ := both_facts (f := fun x _ => mulU x 1) rfl (fun a _ => mulU_range a 1) ra rn
  obtain ⟨p1, p2, p3, p4⟩ := both_facts (f := fun x _ => mulU x 0) rfl (fun a _ => mulU_range a 0) ra rn
  refine ⟨same_of_look (mayL_rising s1) (mayL_rising t1) fun j hj => ?_, same_of_look (mayL_rising m1) rn fun j hj => ?_, same_of_look (mayL_rising z1) (mayL_rising w1) fun j hj => ?_,
    same_of_look (mayL_rising d1) ra fun j hj => ?_, same_of_look (mayL_rising o1) ra fun j hj => ?_, same_of_look (mayL_rising p1) rn fun j hj => ?_⟩
  · rw [s4 j hj, t4 j hj, addU_comm]
  · rw [m4 j hj, subU_self]; rfl
  · rw [z4 j hj, s4 j hj, w4 j hj, x4 j hj, y4 j hj, mulU_add]
  · rw [d4 j hj, s4 j hj, subU_addU (look_narrow j na)]
  · rw [o4 j hj, mulU_one (look_narrow j na)]
  · rw [p4 j hj, mulU_zero]; rfl

end Go.Proofs.YtcngflmnbdcppaaGreat

/- Lists: whether one of them is so. -/
namespace Go.Proofs.YtcngflmnbdcppaaGreat
open Go.LS Go.IntWalk

theorem i64_succ {i : Nat} (h : i < 2 ^ 62) : IntKind.i64.wrap ((i : Int) + 1) = ((i + 1 : Nat) : Int) := by rw [i64_in _ (by omega)]; simp

theorem take_any_succ {α : Type} {xs : List α} {i : Nat} (h : i < xs.length) (p : α → Bool) : (xs.take (i + 1)).any p = ((xs.take i).any p || p xs[i]) := by
  rw [List.take_succ_eq_append_getElem h, List.any_append]; simp only [List.any_cons, List.any_nil, Bool.or_false]

theorem sub_all {l : List V} {n : Nat} (h : l.length = n) : sub l 0 n = some l := by
  simp [sub, h, List.take_of_length_le]

theorem any_of_get {α : Type} {xs : List α} {i : Nat} (h : i < xs.length) {p : α → Bool} (hp : p xs[i] = true) : xs.any p = true :=
  List.any_eq_true.2 ⟨xs[i], List.getElem_mem h, hp⟩

theorem Index_int {α : Type} (enc : α → List V) (xs : List α) (F : FuncId) (caps : List V) (p : α → Bool) (h : LS.Heap) (tg : Tag) (hlen : xs.length < 2 ^ 62) (hsz : ∀ x, (enc x).length = 1) (hre : V.retagLL (xs.map enc) = xs.map enc)
    (hcaps : caps.all V.leaf = true ) (hp : ∀ x ∈ xs, callD T F ((enc x).headD .undef :: caps) h = some (.bool (p x), h)) :
    ∃ n : Int, callD T 112 [.lst tg (xs.map enc), .fn F [] caps] h = some (.int .i64 n, h) ∧ decide (0 ≤ n) = xs.any p := by
  have key : ∃ n : Int, decide (0 ≤ n) = xs.any p ∧ W T c112 ⟨initT [.lst .ro (xs.map enc), .fn F [] caps], fun _ => none, h⟩ (fun e s => e = .ret ∧ s.t 4 = .int .i64 n ∧ s.h = h) := by
    suffices hw : W T c112 ⟨initT [.lst .ro (xs.map enc), .fn F [] caps], fun _ => none, h⟩ (fun e s => ∃ n : Int, decide (0 ≤ n) = xs.any p ∧ e = .ret ∧ s.t 4 = .int .i64 n ∧ s.h = h) by
      obtain ⟨e, s, h1, n, h2, h3⟩ := hw
      exact ⟨n, h2, e, s, h1, h3⟩
    unfold c112
    refine W_seq (W_ops (s1 := ?_) (by simp only [r112_0]; simp; exact rfl) ?_)
    refine W_seq (W_seq (W_ops (s1 := ?_) (by simp only [r112_1]; simp; exact rfl) ?_))
    refine W_block (W_for' l112_0.eq_1 (n := xs.length) (fun i s => s.t 0 = .lst .ro (xs.map enc) ∧ s.t 1 = .fn F [] caps ∧ s.t 7 = .int .i64 xs.length ∧ s.t 8 = .int .i64 i ∧ s.h = h ∧ (xs.take i).any p = false) ⟨by simp, by simp, by simp, by simp, rfl, by simp⟩ ?_ ?_)
    · rintro i ⟨t, loc, h'⟩ hi ⟨t0, t1, t7, t8, rfl, ha⟩
      simp only at t0 t1 t7 t8
      have hl : ((i : Int) < xs.length) := by omega
      have hg : (xs.map enc)[i]? = some (enc xs[i]) := by simp [hi]
      have hg1 : i < (xs.map enc).length := by simp [hi]
      have hw := i64_succ (show i < 2 ^ 62 by omega)
      have hc := hp xs[i] (List.getElem_mem hi)
      have hz := hsz xs[i]
      have hsub := sub_all hz
      have hsucc := take_any_succ hi p
      obtain ⟨hd, tl, hE⟩ : ∃ hd tl, enc xs[i] = hd :: tl := by cases hcs : enc xs[i] with | nil => rw [hcs] at hz; simp at hz | cons a b => exact ⟨a, b, rfl⟩
      rw [hE] at hc hz hsub hg
      simp only [List.headD_cons] at hc
      by_cases hpx : p xs[i] = true
      · rw [hpx] at hc
        have hall := any_of_get hi hpx
        have hwit : decide ((0 : Int) ≤ i) = xs.any p := by simp [hall]
        repeat' (first
          | refine W_seq ?_
          | refine W_skip ?_
          | refine W_block ?_
          | refine W_ret ?_
          | refine W_exit ?_
          | refine W_ops (s1 := ?_) (by simp only [r112_0, r112_1, r112_2, r112_3, r112_4, r112_5, r112_6, r112_7]; simp [-sub, t0, t1, t7, t8, hl, hi, hE, hz, hsub, hw, hc]; exact rfl) ?_
          | refine W_tops (s1 := ?_) (by simp only [r112_0, r112_1, r112_2, r112_3, r112_4, r112_5, r112_6, r112_7]; simp [-sub, t0, t1, t7, t8, hl, hi, hE, hz, hsub, hw, hc]; exact rfl) ?_
          | refine W_cond_t (by first | (simp [-sub, t0, t1, t7, t8, hl, hi, hE, hz, hsub, hw, hc]; done) | fail) ?_
          | refine W_cond_f (by first | (simp [-sub, t0, t1, t7, t8, hl, hi, hE, hz, hsub, hw, hc]; done) | fail) ?_
          | fail)
        refine .inr ⟨by simp, i, hwit, by simp⟩
      · have hpx : p xs[i] = false := by simpa using hpx
        rw [hpx] at hc
        repeat' (first
          | refine W_seq ?_
          | refine W_skip ?_
          | refine W_block ?_
          | refine W_ret ?_
          | refine W_exit ?_
          | refine W_ops (s1 := ?_) (by simp only [r112_0, r112_1, r112_2, r112_3, r112_4, r112_5, r112_6, r112_7]; simp [-sub, t0, t1, t7, t8, hl, hi, hE, hz, hsub, hw, hc]; exact rfl) ?_
          | refine W_tops (s1 := ?_) (by simp only [r112_0, r112_1, r112_2, r112_3, r112_4, r112_5, r112_6, r112_7]; simp [-sub, t0, t1, t7, t8, hl, hi, hE, hz, hsub, hw, hc]; exact rfl) ?_
          | refine W_cond_t (by first | (simp [-sub, t0, t1, t7, t8, hl, hi, hE, hz, hsub, hw, hc]; done) | fail) ?_
          | refine W_cond_f (by first | (simp [-sub, t0, t1, t7, t8, hl, hi, hE, hz, hsub, hw, hc]; done) | fail) ?_
          | fail)
        refine .inl ⟨rfl, by simp [t0], by simp [t1], by simp [t7], by simp, rfl, by rw [hsucc, ha, hpx]; rfl⟩
    · rintro ⟨t, loc, h'⟩ ⟨t0, t1, t7, t8, rfl, ha⟩
      simp only at t0 t1 t7 t8
      have hall : xs.any p = false := by rw [List.take_length] at ha; exact ha
      repeat' (first
        | refine W_seq ?_
        | refine W_skip ?_
        | refine W_block ?_
        | refine W_ret ?_
        | refine W_exit ?_
        | refine W_ops (s1 := ?_) (by simp only [r112_0, r112_1, r112_2, r112_3, r112_4, r112_5, r112_6, r112_7]; simp [t0, t1, t7, t8]; exact rfl) ?_
        | refine W_tops (s1 := ?_) (by simp only [r112_0, r112_1, r112_2, r112_3, r112_4, r112_5, r112_6, r112_7]; simp [t0, t1, t7, t8]; exact rfl) ?_
        | refine W_cond_t (by first | (simp [t0, t1, t7, t8]; done) | fail) ?_
        | refine W_cond_f (by first | (simp [t0, t1, t7, t8]; done) | fail) ?_
        | fail)
      refine ⟨by simp, ?_⟩
      repeat' (first
        | refine W_seq ?_
        | refine W_skip ?_
        | refine W_block ?_
        | refine W_ret ?_
        | refine W_exit ?_
        | refine W_ops (s1 := ?_) (by simp only [r112_0, r112_1, r112_2, r112_3, r112_4, r112_5, r112_6, r112_7]; simp; exact rfl) ?_
        | refine W_tops (s1 := ?_) (by simp only [r112_0, r112_1, r112_2, r112_3, r112_4, r112_5, r112_6, r112_7]; simp; exact rfl) ?_
        | refine W_cond_t (by first | (simp; done) | fail) ?_
        | refine W_cond_f (by first | (simp; done) | fail) ?_
        | fail)
      exact ⟨-1, by simp [hall], rfl, by simp⟩
  obtain ⟨n, h1, h2⟩ := key
  refine ⟨n, ?_, h1⟩
  refine W_call t112 rfl rfl (by simp) ?_
  have hi : (if a112.keepA = true then [.lst tg (xs.map enc), .fn F [] caps] else [.lst tg (xs.map enc), .fn F [] caps].map V.retag) = [.lst .ro (xs.map enc), .fn F [] caps] := by simp [a112, hre]
  rw [hi]
  refine h2.mono ?_
  rintro e s ⟨rfl, h3, rfl⟩
  exact ⟨.inr rfl, [.int .i64 n], by simp [a112, resV, resV1, h3], by simp [a112, packV], rfl, .refl _⟩

theorem Contains_int {α : Type} (enc : α → List V) (xs : List α) (F : FuncId) (caps : List V) (p : α → Bool) (h : LS.Heap) (tg : Tag) (hlen : xs.length < 2 ^ 62) (hsz : ∀ x, (enc x).length = 1) (hre : V.retagLL (xs.map enc) = xs.map enc)
    (hcaps : caps.all V.leaf = true ) (hp : ∀ x ∈ xs, callD T F ((enc x).headD .undef :: caps) h = some (.bool (p x), h)) :
    callD T 80 [.lst tg (xs.map enc), .fn F [] caps] h = some (.bool (xs.any p), h) := by
  obtain ⟨n, h1, h2⟩ := Index_int enc xs F caps p h .ro hlen hsz hre hcaps hp
  refine W_call t80 rfl rfl (by simp) ?_
  show W T c80 _ _
  unfold c80
  repeat' (first
    | refine W_seq ?_
    | refine W_skip ?_
    | refine W_block ?_
    | refine W_ret ?_
    | refine W_exit ?_
    | refine W_ops (s1 := ?_) (by simp only [r80_0, r80_1]; simp [a80, hre, h1, h2]; exact rfl) ?_
    | refine W_tops (s1 := ?_) (by simp only [r80_0, r80_1]; simp [a80, hre, h1, h2]; exact rfl) ?_
    | refine W_cond_t (by first | (simp [a80, hre, h1, h2]; done) | fail) ?_
    | refine W_cond_f (by first | (simp [a80, hre, h1, h2]; done) | fail) ?_
    | fail)
  exact ⟨.inr rfl, [.bool (xs.any p)], by simp [a80, resV, resV1, h2], by simp [a80, packV], rfl, .refl _⟩

theorem Index_list {α : Type} (enc : α → List V) (xs : List α) (F : FuncId) (caps : List V) (p : α → Bool) (h : LS.Heap) (tg : Tag) (hlen : xs.length < 2 ^ 62) (hsz : ∀ x, (enc x).length = 1) (hre : V.retagLL (xs.map enc) = xs.map enc)
    (hcaps : caps.all V.leaf = true ) (hp : ∀ x ∈ xs, callD T F ((enc x).headD .undef :: caps) h = some (.bool (p x), h)) :
    ∃ n : Int, callD T 140 [.lst tg (xs.map enc), .fn F [] caps] h = some (.int .i64 n, h) ∧ decide (0 ≤ n) = xs.any p := by
  have key : ∃ n : Int, decide (0 ≤ n) = xs.any p ∧ W T c140 ⟨initT [.lst .ro (xs.map enc), .fn F [] caps], fun _ => none, h⟩ (fun e s => e = .ret ∧ s.t 4 = .int .i64 n ∧ s.h = h) := by
    suffices hw : W T c140 ⟨initT [.lst .ro (xs.map enc), .fn F [] caps], fun _ => none, h⟩ (fun e s => ∃ n : Int, decide (0 ≤ n) = xs.any p ∧ e = .ret ∧ s.t 4 = .int .i64 n ∧ s.h = h) by
      obtain ⟨e, s, h1, n, h2, h3⟩ := hw
      exact ⟨n, h2, e, s, h1, h3⟩
    unfold c140
    refine W_seq (W_ops (s1 := ?_) (by simp only [r140_0]; simp; exact rfl) ?_)
    refine W_seq (W_seq (W_ops (s1 := ?_) (by simp only [r140_1]; simp; exact rfl) ?_))
    refine W_block (W_for' l140_0.eq_1 (n := xs.length) (fun i s => s.t 0 = .lst .ro (xs.map enc) ∧ s.t 1 = .fn F [] caps ∧ s.t 7 = .int .i64 xs.length ∧ s.t 8 = .int .i64 i ∧ s.h = h ∧ (xs.take i).any p = false) ⟨by simp, by simp, by simp, by simp, rfl, by simp⟩ ?_ ?_)
    · rintro i ⟨t, loc, h'⟩ hi ⟨t0, t1, t7, t8, rfl, ha⟩
      simp only at t0 t1 t7 t8
      have hl : ((i : Int) < xs.length) := by omega
      have hg : (xs.map enc)[i]? = some (enc xs[i]) := by simp [hi]
      have hg1 : i < (xs.map enc).length := by simp [hi]
      have hw := i64_succ (show i < 2 ^ 62 by omega)
      have hc := hp xs[i] (List.getElem_mem hi)
      have hz := hsz xs[i]
      have hsub := sub_all hz
      have hsucc := take_any_succ hi p
      obtain ⟨hd, tl, hE⟩ : ∃ hd tl, enc xs[i] = hd :: tl := by cases hcs : enc xs[i] with | nil => rw [hcs] at hz; simp at hz | cons a b => exact ⟨a, b, rfl⟩
      rw [hE] at hc hz hsub hg
      simp only [List.headD_cons] at hc
      by_cases hpx : p xs[i] = true
      · rw [hpx] at hc
        have hall := any_of_get hi hpx
        have hwit : decide ((0 : Int) ≤ i) = xs.any p := by simp [hall]
        repeat' (first
          | refine W_seq ?_
          | refine W_skip ?_
          | refine W_block ?_
          | refine W_ret ?_
          | refine W_exit ?_
          | refine W_ops (s1 := ?_) (by simp only [r140_0, r140_1, r140_2, r140_3, r140_4, r140_5, r140_6, r140_7]; simp [-sub, t0, t1, t7, t8, hl, hi, hE, hz, hsub, hw, hc]; exact rfl) ?_
          | refine W_tops (s1 := ?_) (by simp only [r140_0, r140_1, r140_2, r140_3, r140_4, r140_5, r140_6, r140_7]; simp [-sub, t0, t1, t7, t8, hl, hi, hE, hz, hsub, hw, hc]; exact rfl) ?_
          | refine W_cond_t (by first | (simp [-sub, t0, t1, t7, t8, hl, hi, hE, hz, hsub, hw, hc]; done) | fail) ?_
          | refine W_cond_f (by first | (simp [-sub, t0, t1, t7, t8, hl, hi, hE, hz, hsub, hw, hc]; done) | fail) ?_
          | fail)
        refine .inr ⟨by simp, i, hwit, by simp⟩
      · have hpx : p xs[i] = false := by simpa using hpx
        rw [hpx] at hc
        repeat' (first
          | refine W_seq ?_
          | refine W_skip ?_
          | refine W_block ?_
          | refine W_ret ?_
          | refine W_exit ?_
          | refine W_ops (s1 := ?_) (by simp only [r140_0, r140_1, r140_2, r140_3, r140_4, r140_5, r140_6, r140_7]; simp [-sub, t0, t1, t7, t8, hl, hi, hE, hz, hsub, hw, hc]; exact rfl) ?_
          | refine W_tops (s1 := ?_) (by simp only [r140_0, r140_1, r140_2, r140_3, r140_4, r140_5, r140_6, r140_7]; simp [-sub, t0, t1, t7, t8, hl, hi, hE, hz, hsub, hw, hc]; exact rfl) ?_
          | refine W_cond_t (by first | (simp [-sub, t0, t1, t7, t8, hl, hi, hE, hz, hsub, hw, hc]; done) | fail) ?_
          | refine W_cond_f (by first | (simp [-sub, t0, t1, t7, t8, hl, hi, hE, hz, hsub, hw, hc]; done) | fail) ?_
          | fail)
        refine .inl ⟨rfl, by simp [t0], by simp [t1], by simp [t7], by simp, rfl, by rw [hsucc, ha, hpx]; rfl⟩
    · rintro ⟨t, loc, h'⟩ ⟨t0, t1, t7, t8, rfl, ha⟩
      simp only at t0 t1 t7 t8
      have hall : xs.any p = false := by rw [List.take_length] at ha; exact ha
      repeat' (first
        | refine W_seq ?_
        | refine W_skip ?_
        | refine W_block ?_
        | refine W_ret ?_
        | refine W_exit ?_
        | refine W_ops (s1 := ?_) (by simp only [r140_0, r140_1, r140_2, r140_3, r140_4, r140_5, r140_6, r140_7]; simp [t0, t1, t7, t8]; exact rfl) ?_
        | refine W_tops (s1 := ?_) (by simp only [r140_0, r140_1, r140_2, r140_3, r140_4, r140_5, r140_6, r140_7]; simp [t0, t1, t7, t8]; exact rfl) ?_
        | refine W_cond_t (by first | (simp [t0, t1, t7, t8]; done) | fail) ?_
        | refine W_cond_f (by first | (simp [t0, t1, t7, t8]; done) | fail) ?_
        | fail)
      refine ⟨by simp, ?_⟩
      repeat' (first
        | refine W_seq ?_
        | refine W_skip ?_
        | refine W_block ?_
        | refine W_ret ?_
        | refine W_exit ?_
        | refine W_ops (s1 := ?_) (by simp only [r140_0, r140_1, r140_2, r140_3, r140_4, r140_5, r140_6, r140_7]; simp; exact rfl) ?_
        | refine W_tops (s1 := ?_) (by simp only [r140_0, r140_1, r140_2, r140_3, r140_4, r140_5, r140_6, r140_7]; simp; exact rfl) ?_
        | refine W_cond_t (by first | (simp; done) | fail) ?_
        | refine W_cond_f (by first | (simp; done) | fail) ?_
        | fail)
      exact ⟨-1, by simp [hall], rfl, by simp⟩
  obtain ⟨n, h1, h2⟩ := key
  refine ⟨n, ?_, h1⟩
  refine W_call t140 rfl rfl (by simp) ?_
  have hi : (if a140.keepA = true then [.lst tg (xs.map enc), .fn F [] caps] else [.lst tg (xs.map enc), .fn F [] caps].map V.retag) = [.lst .ro (xs.map enc), .fn F [] caps] := by simp [a140, hre]
  rw [hi]
  refine h2.mono ?_
  rintro e s ⟨rfl, h3, rfl⟩
  exact ⟨.inr rfl, [.int .i64 n], by simp [a140, resV, resV1, h3], by simp [a140, packV], rfl, .refl _⟩

theorem Contains_list {α : Type} (enc : α → List V) (xs : List α) (F : FuncId) (caps : List V) (p : α → Bool) (h : LS.Heap) (tg : Tag) (hlen : xs.length < 2 ^ 62) (hsz : ∀ x, (enc x).length = 1) (hre : V.retagLL (xs.map enc) = xs.map enc)
    (hcaps : caps.all V.leaf = true ) (hp : ∀ x ∈ xs, callD T F ((enc x).headD .undef :: caps) h = some (.bool (p x), h)) :
    callD T 122 [.lst tg (xs.map enc), .fn F [] caps] h = some (.bool (xs.any p), h) := by
  obtain ⟨n, h1, h2⟩ := Index_list enc xs F caps p h .ro hlen hsz hre hcaps hp
  refine W_call t122 rfl rfl (by simp) ?_
  show W T c122 _ _
  unfold c122
  repeat' (first
    | refine W_seq ?_
    | refine W_skip ?_
    | refine W_block ?_
    | refine W_ret ?_
    | refine W_exit ?_
    | refine W_ops (s1 := ?_) (by simp only [r122_0, r122_1]; simp [a122, hre, h1, h2]; exact rfl) ?_
    | refine W_tops (s1 := ?_) (by simp only [r122_0, r122_1]; simp [a122, hre, h1, h2]; exact rfl) ?_
    | refine W_cond_t (by first | (simp [a122, hre, h1, h2]; done) | fail) ?_
    | refine W_cond_f (by first | (simp [a122, hre, h1, h2]; done) | fail) ?_
    | fail)
  exact ⟨.inr rfl, [.bool (xs.any p)], by simp [a122, resV, resV1, h2], by simp [a122, packV], rfl, .refl _⟩

theorem Index_block {α : Type} (enc : α → List V) (xs : List α) (F : FuncId) (caps : List V) (p : α → Bool) (h : LS.Heap) (tg : Tag) (hlen : xs.length < 2 ^ 62) (hsz : ∀ x, (enc x).length = 5) (hre : V.retagLL (xs.map enc) = xs.map enc)
    (hcaps : caps.all V.leaf = true ) (hp : ∀ x ∈ xs, callD T F (.agg (enc x) :: caps) h = some (.bool (p x), h)) :
    ∃ n : Int, callD T 99 [.lst tg (xs.map enc), .fn F [] caps] h = some (.int .i64 n, h) ∧ decide (0 ≤ n) = xs.any p := by
  have key : ∃ n : Int, decide (0 ≤ n) = xs.any p ∧ W T c99 ⟨initT [.lst .ro (xs.map enc), .fn F [] caps], fun _ => none, h⟩ (fun e s => e = .ret ∧ s.t 4 = .int .i64 n ∧ s.h = h) := by
    suffices hw : W T c99 ⟨initT [.lst .ro (xs.map enc), .fn F [] caps], fun _ => none, h⟩ (fun e s => ∃ n : Int, decide (0 ≤ n) = xs.any p ∧ e = .ret ∧ s.t 4 = .int .i64 n ∧ s.h = h) by
      obtain ⟨e, s, h1, n, h2, h3⟩ := hw
      exact ⟨n, h2, e, s, h1, h3⟩
    unfold c99
    refine W_seq (W_ops (s1 := ?_) (by simp only [r99_0]; simp; exact rfl) ?_)
    refine W_seq (W_seq (W_ops (s1 := ?_) (by simp only [r99_1]; simp; exact rfl) ?_))
    refine W_block (W_for' l99_0.eq_1 (n := xs.length) (fun i s => s.t 0 = .lst .ro (xs.map enc) ∧ s.t 1 = .fn F [] caps ∧ s.t 7 = .int .i64 xs.length ∧ s.t 8 = .int .i64 i ∧ s.h = h ∧ (xs.take i).any p = false) ⟨by simp, by simp, by simp, by simp, rfl, by simp⟩ ?_ ?_)
    · rintro i ⟨t, loc, h'⟩ hi ⟨t0, t1, t7, t8, rfl, ha⟩
      simp only at t0 t1 t7 t8
      have hl : ((i : Int) < xs.length) := by omega
      have hg : (xs.map enc)[i]? = some (enc xs[i]) := by simp [hi]
      have hg1 : i < (xs.map enc).length := by simp [hi]
      have hw := i64_succ (show i < 2 ^ 62 by omega)
      have hc := hp xs[i] (List.getElem_mem hi)
      have hz := hsz xs[i]
      have hsub := sub_all hz
      have hsucc := take_any_succ hi p
      obtain ⟨hd, tl, hE⟩ : ∃ hd tl, enc xs[i] = hd :: tl := by cases hcs : enc xs[i] with | nil => rw [hcs] at hz; simp at hz | cons a b => exact ⟨a, b, rfl⟩
      rw [hE] at hc hz hsub hg
      simp only [List.headD_cons] at hc
      by_cases hpx : p xs[i] = true
      · rw [hpx] at hc
        have hall := any_of_get hi hpx
        have hwit : decide ((0 : Int) ≤ i) = xs.any p := by simp [hall]
        repeat' (first
          | refine W_seq ?_
          | refine W_skip ?_
          | refine W_block ?_
          | refine W_ret ?_
          | refine W_exit ?_
          | refine W_ops (s1 := ?_) (by simp only [r99_0, r99_1, r99_2, r99_3, r99_4, r99_5, r99_6, r99_7]; simp [-sub, t0, t1, t7, t8, hl, hi, hE, hz, hsub, hw, hc]; exact rfl) ?_
          | refine W_tops (s1 := ?_) (by simp only [r99_0, r99_1, r99_2, r99_3, r99_4, r99_5, r99_6, r99_7]; simp [-sub, t0, t1, t7, t8, hl, hi, hE, hz, hsub, hw, hc]; exact rfl) ?_
          | refine W_cond_t (by first | (simp [-sub, t0, t1, t7, t8, hl, hi, hE, hz, hsub, hw, hc]; done) | fail) ?_
          | refine W_cond_f (by first | (simp [-sub, t0, t1, t7, t8, hl, hi, hE, hz, hsub, hw, hc]; done) | fail) ?_
          | fail)
        refine .inr ⟨by simp, i, hwit, by simp⟩
      · have hpx : p xs[i] = false := by simpa using hpx
        rw [hpx] at hc
        repeat' (first
          | refine W_seq ?_
          | refine W_skip ?_
          | refine W_block ?_
          | refine W_ret ?_
          | refine W_exit ?_
          | refine W_ops (s1 := ?_) (by simp only [r99_0, r99_1, r99_2, r99_3, r99_4, r99_5, r99_6, r99_7]; simp [-sub, t0, t1, t7, t8, hl, hi, hE, hz, hsub, hw, hc]; exact rfl) ?_
          | refine W_tops (s1 := ?_) (by simp only [r99_0, r99_1, r99_2, r99_3, r99_4, r99_5, r99_6, r99_7]; simp [-sub, t0, t1, t7, t8, hl, hi, hE, hz, hsub, hw, hc]; exact rfl) ?_
          | refine W_cond_t (by first | (simp [-sub, t0, t1, t7, t8, hl, hi, hE, hz, hsub, hw, hc]; done) | fail) ?_
          | refine W_cond_f (by first | (simp [-sub, t0, t1, t7, t8, hl, hi, hE, hz, hsub, hw, hc]; done) | fail) ?_
          | fail)
        refine .inl ⟨rfl, by simp [t0], by simp [t1], by simp [t7], by simp, rfl, by rw [hsucc, ha, hpx]; rfl⟩
    · rintro ⟨t, loc, h'⟩ ⟨t0, t1, t7, t8, rfl, ha⟩
      simp only at t0 t1 t7 t8
      have hall : xs.any p = false := by rw [List.take_length] at ha; exact ha
      repeat' (first
        | refine W_seq ?_
        | refine W_skip ?_
        | refine W_block ?_
        | refine W_ret ?_
        | refine W_exit ?_
        | refine W_ops (s1 := ?_) (by simp only [r99_0, r99_1, r99_2, r99_3, r99_4, r99_5, r99_6, r99_7]; simp [t0, t1, t7, t8]; exact rfl) ?_
        | refine W_tops (s1 := ?_) (by simp only [r99_0, r99_1, r99_2, r99_3, r99_4, r99_5, r99_6, r99_7]; simp [t0, t1, t7, t8]; exact rfl) ?_
        | refine W_cond_t (by first | (simp [t0, t1, t7, t8]; done) | fail) ?_
        | refine W_cond_f (by first | (simp [t0, t1, t7, t8]; done) | fail) ?_
        | fail)
      refine ⟨by simp, ?_⟩
      repeat' (first
        | refine W_seq ?_
        | refine W_skip ?_
        | refine W_block ?_
        | refine W_ret ?_
        | refine W_exit ?_
        | refine W_ops (s1 := ?_) (by simp only [r99_0, r99_1, r99_2, r99_3, r99_4, r99_5, r99_6, r99_7]; simp; exact rfl) ?_
        | refine W_tops (s1 := ?_) (by simp only [r99_0, r99_1, r99_2, r99_3, r99_4, r99_5, r99_6, r99_7]; simp; exact rfl) ?_
        | refine W_cond_t (by first | (simp; done) | fail) ?_
        | refine W_cond_f (by first | (simp; done) | fail) ?_
        | fail)
      exact ⟨-1, by simp [hall], rfl, by simp⟩
  obtain ⟨n, h1, h2⟩ := key
  refine ⟨n, ?_, h1⟩
  refine W_call t99 rfl rfl (by simp) ?_
  have hi : (if a99.keepA = true then [.lst tg (xs.map enc), .fn F [] caps] else [.lst tg (xs.map enc), .fn F [] caps].map V.retag) = [.lst .ro (xs.map enc), .fn F [] caps] := by simp [a99, hre]
  rw [hi]
  refine h2.mono ?_
  rintro e s ⟨rfl, h3, rfl⟩
  exact ⟨.inr rfl, [.int .i64 n], by simp [a99, resV, resV1, h3], by simp [a99, packV], rfl, .refl _⟩

theorem Contains_block {α : Type} (enc : α → List V) (xs : List α) (F : FuncId) (caps : List V) (p : α → Bool) (h : LS.Heap) (tg : Tag) (hlen : xs.length < 2 ^ 62) (hsz : ∀ x, (enc x).length = 5) (hre : V.retagLL (xs.map enc) = xs.map enc)
    (hcaps : caps.all V.leaf = true ) (hp : ∀ x ∈ xs, callD T F (.agg (enc x) :: caps) h = some (.bool (p x), h)) :
    callD T 72 [.lst tg (xs.map enc), .fn F [] caps] h = some (.bool (xs.any p), h) := by
  obtain ⟨n, h1, h2⟩ := Index_block enc xs F caps p h .ro hlen hsz hre hcaps hp
  refine W_call t72 rfl rfl (by simp) ?_
  show W T c72 _ _
  unfold c72
  repeat' (first
    | refine W_seq ?_
    | refine W_skip ?_
    | refine W_block ?_
    | refine W_ret ?_
    | refine W_exit ?_
    | refine W_ops (s1 := ?_) (by simp only [r72_0, r72_1]; simp [a72, hre, h1, h2]; exact rfl) ?_
    | refine W_tops (s1 := ?_) (by simp only [r72_0, r72_1]; simp [a72, hre, h1, h2]; exact rfl) ?_
    | refine W_cond_t (by first | (simp [a72, hre, h1, h2]; done) | fail) ?_
    | refine W_cond_f (by first | (simp [a72, hre, h1, h2]; done) | fail) ?_
    | fail)
  exact ⟨.inr rfl, [.bool (xs.any p)], by simp [a72, resV, resV1, h2], by simp [a72, packV], rfl, .refl _⟩

theorem Index_op {α : Type} (enc : α → List V) (xs : List α) (F : FuncId) (caps : List V) (p : α → Bool) (h : LS.Heap) (tg : Tag) (hlen : xs.length < 2 ^ 62) (hsz : ∀ x, (enc x).length = 6) (hre : V.retagLL (xs.map enc) = xs.map enc)
    (hcaps : caps.all V.leaf = true ) (hp : ∀ x ∈ xs, callD T F (.agg (enc x) :: caps) h = some (.bool (p x), h)) :
    ∃ n : Int, callD T 114 [.lst tg (xs.map enc), .fn F [] caps] h = some (.int .i64 n, h) ∧ decide (0 ≤ n) = xs.any p := by
  have key : ∃ n : Int, decide (0 ≤ n) = xs.any p ∧ W T c114 ⟨initT [.lst .ro (xs.map enc), .fn F [] caps], fun _ => none, h⟩ (fun e s => e = .ret ∧ s.t 4 = .int .i64 n ∧ s.h = h) := by
    suffices hw : W T c114 ⟨initT [.lst .ro (xs.map enc), .fn F [] caps], fun _ => none, h⟩ (fun e s => ∃ n : Int, decide (0 ≤ n) = xs.any p ∧ e = .ret ∧ s.t 4 = .int .i64 n ∧ s.h = h) by
      obtain ⟨e, s, h1, n, h2, h3⟩ := hw
      exact ⟨n, h2, e, s, h1, h3⟩
    unfold c114
    refine W_seq (W_ops (s1 := ?_) (by simp only [r114_0]; simp; exact rfl) ?_)
    refine W_seq (W_seq (W_ops (s1 := ?_) (by simp only [r114_1]; simp; exact rfl) ?_))
    refine W_block (W_for' l114_0.eq_1 (n := xs.length) (fun i s => s.t 0 = .lst .ro (xs.map enc) ∧ s.t 1 = .fn F [] caps ∧ s.t 7 = .int .i64 xs.length ∧ s.t 8 = .int .i64 i ∧ s.h = h ∧ (xs.take i).any p = false) ⟨by simp, by simp, by simp, by simp, rfl, by simp⟩ ?_ ?_)
    · rintro i ⟨t, loc, h'⟩ hi ⟨t0, t1, t7, t8, rfl, ha⟩
      simp only at t0 t1 t7 t8
      have hl : ((i : Int) < xs.length) := by omega
      have hg : (xs.map enc)[i]? = some (enc xs[i]) := by simp [hi]
      have hg1 : i < (xs.map enc).length := by simp [hi]
      have hw := i64_succ (show i < 2 ^ 62 by omega)
      have hc := hp xs[i] (List.getElem_mem hi)
      have hz := hsz xs[i]
      have hsub := sub_all hz
      have hsucc := take_any_succ hi p
      obtain ⟨hd, tl, hE⟩ : ∃ hd tl, enc xs[i] = hd :: tl := by cases hcs : enc xs[i] with | nil => rw [hcs] at hz; simp at hz | cons a b => exact ⟨a, b, rfl⟩
      rw [hE] at hc hz hsub hg
      simp only [List.headD_cons] at hc
      by_cases hpx : p xs[i] = true
      · rw [hpx] at hc
        have hall := any_of_get hi hpx
        have hwit : decide ((0 : Int) ≤ i) = xs.any p := by simp [hall]
        repeat' (first
          | refine W_seq ?_
          | refine W_skip ?_
          | refine W_block ?_
          | refine W_ret ?_
          | refine W_exit ?_
          | refine W_ops (s1 := ?_) (by simp only [r114_0, r114_1, r114_2, r114_3, r114_4, r114_5, r114_6, r114_7]; simp [-sub, t0, t1, t7, t8, hl, hi, hE, hz, hsub, hw, hc]; exact rfl) ?_
          | refine W_tops (s1 := ?_) (by simp only [r114_0, r114_1, r114_2, r114_3, r114_4, r114_5, r114_6, r114_7]; simp [-sub, t0, t1, t7, t8, hl, hi, hE, hz, hsub, hw, hc]; exact rfl) ?_
          | refine W_cond_t (by first | (simp [-sub, t0, t1, t7, t8, hl, hi, hE, hz, hsub, hw, hc]; done) | fail) ?_
          | refine W_cond_f (by first | (simp [-sub, t0, t1, t7, t8, hl, hi, hE, hz, hsub, hw, hc]; done) | fail) ?_
          | fail)
        refine .inr ⟨by simp, i, hwit, by simp⟩
      · have hpx : p xs[i] = false := by simpa using hpx
        rw [hpx] at hc
        repeat' (first
          | refine W_seq ?_
          | refine W_skip ?_
          | refine W_block ?_
          | refine W_ret ?_
          | refine W_exit ?_
          | refine W_ops (s1 := ?_) (by simp only [r114_0, r114_1, r114_2, r114_3, r114_4, r114_5, r114_6, r114_7]; simp [-sub, t0, t1, t7, t8, hl, hi, hE, hz, hsub, hw, hc]; exact rfl) ?_
          | refine W_tops (s1 := ?_) (by simp only [r114_0, r114_1, r114_2, r114_3, r114_4, r114_5, r114_6, r114_7]; simp [-sub, t0, t1, t7, t8, hl, hi, hE, hz, hsub, hw, hc]; exact rfl) ?_
          | refine W_cond_t (by first | (simp [-sub, t0, t1, t7, t8, hl, hi, hE, hz, hsub, hw, hc]; done) | fail) ?_
          | refine W_cond_f (by first | (simp [-sub, t0, t1, t7, t8, hl, hi, hE, hz, hsub, hw, hc]; done) | fail) ?_
          | fail)
        refine .inl ⟨rfl, by simp [t0], by simp [t1], by simp [t7], by simp, rfl, by rw [hsucc, ha, hpx]; rfl⟩
    · rintro ⟨t, loc, h'⟩ ⟨t0, t1, t7, t8, rfl, ha⟩
      simp only at t0 t1 t7 t8
      have hall : xs.any p = false := by rw [List.take_length] at ha; exact ha
      repeat' (first
        | refine W_seq ?_
        | refine W_skip ?_
        | refine W_block ?_
        | refine W_ret ?_
        | refine W_exit ?_
        | refine W_ops (s1 := ?_) (by simp only [r114_0, r114_1, r114_2, r114_3, r114_4, r114_5, r114_6, r114_7]; simp [t0, t1, t7, t8]; exact rfl) ?_
        | refine W_tops (s1 := ?_) (by simp only [r114_0, r114_1, r114_2, r114_3, r114_4, r114_5, r114_6, r114_7]; simp [t0, t1, t7, t8]; exact rfl) ?_
        | refine W_cond_t (by first | (simp [t0, t1, t7, t8]; done) | fail) ?_
        | refine W_cond_f (by first | (simp [t0, t1, t7, t8]; done) | fail) ?_
        | fail)
      refine ⟨by simp, ?_⟩
      repeat' (first
        | refine W_seq ?_
        | refine W_skip ?_
        | refine W_block ?_
        | refine W_ret ?_
        | refine W_exit ?_
        | refine W_ops (s1 := ?_) (by simp only [r114_0, r114_1, r114_2, r114_3, r114_4, r114_5, r114_6, r114_7]; simp; exact rfl) ?_
        | refine W_tops (s1 := ?_) (by simp only [r114_0, r114_1, r114_2, r114_3, r114_4, r114_5, r114_6, r114_7]; simp; exact rfl) ?_
        | refine W_cond_t (by first | (simp; done) | fail) ?_
        | refine W_cond_f (by first | (simp; done) | fail) ?_
        | fail)
      exact ⟨-1, by simp [hall], rfl, by simp⟩
  obtain ⟨n, h1, h2⟩ := key
  refine ⟨n, ?_, h1⟩
  refine W_call t114 rfl rfl (by simp) ?_
  have hi : (if a114.keepA = true then [.lst tg (xs.map enc), .fn F [] caps] else [.lst tg (xs.map enc), .fn F [] caps].map V.retag) = [.lst .ro (xs.map enc), .fn F [] caps] := by simp [a114, hre]
  rw [hi]
  refine h2.mono ?_
  rintro e s ⟨rfl, h3, rfl⟩
  exact ⟨.inr rfl, [.int .i64 n], by simp [a114, resV, resV1, h3], by simp [a114, packV], rfl, .refl _⟩

theorem Contains_op {α : Type} (enc : α → List V) (xs : List α) (F : FuncId) (caps : List V) (p : α → Bool) (h : LS.Heap) (tg : Tag) (hlen : xs.length < 2 ^ 62) (hsz : ∀ x, (enc x).length = 6) (hre : V.retagLL (xs.map enc) = xs.map enc)
    (hcaps : caps.all V.leaf = true ) (hp : ∀ x ∈ xs, callD T F (.agg (enc x) :: caps) h = some (.bool (p x), h)) :
    callD T 84 [.lst tg (xs.map enc), .fn F [] caps] h = some (.bool (xs.any p), h) := by
  obtain ⟨n, h1, h2⟩ := Index_op enc xs F caps p h .ro hlen hsz hre hcaps hp
  refine W_call t84 rfl rfl (by simp) ?_
  show W T c84 _ _
  unfold c84
  repeat' (first
    | refine W_seq ?_
    | refine W_skip ?_
    | refine W_block ?_
    | refine W_ret ?_
    | refine W_exit ?_
    | refine W_ops (s1 := ?_) (by simp only [r84_0, r84_1]; simp [a84, hre, h1, h2]; exact rfl) ?_
    | refine W_tops (s1 := ?_) (by simp only [r84_0, r84_1]; simp [a84, hre, h1, h2]; exact rfl) ?_
    | refine W_cond_t (by first | (simp [a84, hre, h1, h2]; done) | fail) ?_
    | refine W_cond_f (by first | (simp [a84, hre, h1, h2]; done) | fail) ?_
    | fail)
  exact ⟨.inr rfl, [.bool (xs.any p)], by simp [a84, resV, resV1, h2], by simp [a84, packV], rfl, .refl _⟩

theorem Index_phi {α : Type} (enc : α → List V) (xs : List α) (F : FuncId) (caps : List V) (p : α → Bool) (h : LS.Heap) (tg : Tag) (hlen : xs.length < 2 ^ 62) (hsz : ∀ x, (enc x).length = 4) (hre : V.retagLL (xs.map enc) = xs.map enc)
    (hcaps : caps.all V.leaf = true ) (hp : ∀ x ∈ xs, callD T F (.agg (enc x) :: caps) h = some (.bool (p x), h)) :
    ∃ n : Int, callD T 113 [.lst tg (xs.map enc), .fn F [] caps] h = some (.int .i64 n, h) ∧ decide (0 ≤ n) = xs.any p := by
  have key : ∃ n : Int, decide (0 ≤ n) = xs.any p ∧ W T c113 ⟨initT [.lst .ro (xs.map enc), .fn F [] caps], fun _ => none, h⟩ (fun e s => e = .ret ∧ s.t 4 = .int .i64 n ∧ s.h = h) := by
    suffices hw : W T c113 ⟨initT [.lst .ro (xs.map enc), .fn F [] caps], fun _ => none, h⟩ (fun e s => ∃ n : Int, decide (0 ≤ n) = xs.any p ∧ e = .ret ∧ s.t 4 = .int .i64 n ∧ s.h = h) by
      obtain ⟨e, s, h1, n, h2, h3⟩ := hw
      exact ⟨n, h2, e, s, h1, h3⟩
    unfold c113
    refine W_seq (W_ops (s1 := ?_) (by simp only [r113_0]; simp; exact rfl) ?_)
    refine W_seq (W_seq (W_ops (s1 := ?_) (by simp only [r113_1]; simp; exact rfl) ?_))
    refine W_block (W_for' l113_0.eq_1 (n := xs.length) (fun i s => s.t 0 = .lst .ro (xs.map enc) ∧ s.t 1 = .fn F [] caps ∧ s.t 7 = .int .i64 xs.length ∧ s.t 8 = .int .i64 i ∧ s.h = h ∧ (xs.take i).any p = false) ⟨by simp, by simp, by simp, by simp, rfl, by simp⟩ ?_ ?_)
    · rintro i ⟨t, loc, h'⟩ hi ⟨t0, t1, t7, t8, rfl, ha⟩
      simp only at t0 t1 t7 t8
      have hl : ((i : Int) < xs.length) := by omega
      have hg : (xs.map enc)[i]? = some (enc xs[i]) := by simp [hi]
      have hg1 : i < (xs.map enc).length := by simp [hi]
      have hw := i64_succ (show i < 2 ^ 62 by omega)
      have hc := hp xs[i] (List.getElem_mem hi)
      have hz := hsz xs[i]
      have hsub := sub_all hz
      have hsucc := take_any_succ hi p
      obtain ⟨hd, tl, hE⟩ : ∃ hd tl, enc xs[i] = hd :: tl := by cases hcs : enc xs[i] with | nil => rw [hcs] at hz; simp at hz | cons a b => exact ⟨a, b, rfl⟩
      rw [hE] at hc hz hsub hg
      simp only [List.headD_cons] at hc
      by_cases hpx : p xs[i] = true
      · rw [hpx] at hc
        have hall := any_of_get hi hpx
        have hwit : decide ((0 : Int) ≤ i) = xs.any p := by simp [hall]
        repeat' (first
          | refine W_seq ?_
          | refine W_skip ?_
          | refine W_block ?_
          | refine W_ret ?_
          | refine W_exit ?_
          | refine W_ops (s1 := ?_) (by simp only [r113_0, r113_1, r113_2, r113_3, r113_4, r113_5, r113_6, r113_7]; simp [-sub, t0, t1, t7, t8, hl, hi, hE, hz, hsub, hw, hc]; exact rfl) ?_
          | refine W_tops (s1 := ?_) (by simp only [r113_0, r113_1, r113_2, r113_3, r113_4, r113_5, r113_6, r113_7]; simp [-sub, t0, t1, t7, t8, hl, hi, hE, hz, hsub, hw, hc]; exact rfl) ?_
          | refine W_cond_t (by first | (simp [-sub, t0, t1, t7, t8, hl, hi, hE, hz, hsub, hw, hc]; done) | fail) ?_
          | refine W_cond_f (by first | (simp [-sub, t0, t1, t7, t8, hl, hi, hE, hz, hsub, hw, hc]; done) | fail) ?_
          | fail)
        refine .inr ⟨by simp, i, hwit, by simp⟩
      · have hpx : p xs[i] = false := by simpa using hpx
        rw [hpx] at hc
        repeat' (first
          | refine W_seq ?_
          | refine W_skip ?_
          | refine W_block ?_
          | refine W_ret ?_
          | refine W_exit ?_
          | refine W_ops (s1 := ?_) (by simp only [r113_0, r113_1, r113_2, r113_3, r113_4, r113_5, r113_6, r113_7]; simp [-sub, t0, t1, t7, t8, hl, hi, hE, hz, hsub, hw, hc]; exact rfl) ?_
          | refine W_tops (s1 := ?_) (by simp only [r113_0, r113_1, r113_2, r113_3, r113_4, r113_5, r113_6, r113_7]; simp [-sub, t0, t1, t7, t8, hl, hi, hE, hz, hsub, hw, hc]; exact rfl) ?_
          | refine W_cond_t (by first | (simp [-sub, t0, t1, t7, t8, hl, hi, hE, hz, hsub, hw, hc]; done) | fail) ?_
          | refine W_cond_f (by first | (simp [-sub, t0, t1, t7, t8, hl, hi, hE, hz, hsub, hw, hc]; done) | fail) ?_
          | fail)
        refine .inl ⟨rfl, by simp [t0], by simp [t1], by simp [t7], by simp, rfl, by rw [hsucc, ha, hpx]; rfl⟩
    · rintro ⟨t, loc, h'⟩ ⟨t0, t1, t7, t8, rfl, ha⟩
      simp only at t0 t1 t7 t8
      have hall : xs.any p = false := by rw [List.take_length] at ha; exact ha
      repeat' (first
        | refine W_seq ?_
        | refine W_skip ?_
        | refine W_block ?_
        | refine W_ret ?_
        | refine W_exit ?_
        | refine W_ops (s1 := ?_) (by simp only [r113_0, r113_1, r113_2, r113_3, r113_4, r113_5, r113_6, r113_7]; simp [t0, t1, t7, t8]; exact rfl) ?_
        | refine W_tops (s1 := ?_) (by simp only [r113_0, r113_1, r113_2, r113_3, r113_4, r113_5, r113_6, r113_7]; simp [t0, t1, t7, t8]; exact rfl) ?_
        | refine W_cond_t (by first | (simp [t0, t1, t7, t8]; done) | fail) ?_
        | refine W_cond_f (by first | (simp [t0, t1, t7, t8]; done) | fail) ?_
        | fail)
      refine ⟨by simp, ?_⟩
      repeat' (first
        | refine W_seq ?_
        | refine W_skip ?_
        | refine W_block ?_
        | refine W_ret ?_
        | refine W_exit ?_
        | refine W_ops (s1 := ?_) (by simp only [r113_0, r113_1, r113_2, r113_3, r113_4, r113_5, r113_6, r113_7]; simp; exact rfl) ?_
        | refine W_tops (s1 := ?_) (by simp only [r113_0, r113_1, r113_2, r113_3, r113_4, r113_5, r113_6, r113_7]; simp; exact rfl) ?_
        | refine W_cond_t (by first | (simp; done) | fail) ?_
        | refine W_cond_f (by first | (simp; done) | fail) ?_
        | fail)
      exact ⟨-1, by simp [hall], rfl, by simp⟩
  obtain ⟨n, h1, h2⟩ := key
  refine ⟨n, ?_, h1⟩
  refine W_call t113 rfl rfl (by simp) ?_
  have hi : (if a113.keepA = true then [.lst tg (xs.map enc), .fn F [] caps] else [.lst tg (xs.map enc), .fn F [] caps].map V.retag) = [.lst .ro (xs.map enc), .fn F [] caps] := by simp [a113, hre]
  rw [hi]
  refine h2.mono ?_
  rintro e s ⟨rfl, h3, rfl⟩
  exact ⟨.inr rfl, [.int .i64 n], by simp [a113, resV, resV1, h3], by simp [a113, packV], rfl, .refl _⟩

theorem Contains_phi {α : Type} (enc : α → List V) (xs : List α) (F : FuncId) (caps : List V) (p : α → Bool) (h : LS.Heap) (tg : Tag) (hlen : xs.length < 2 ^ 62) (hsz : ∀ x, (enc x).length = 4) (hre : V.retagLL (xs.map enc) = xs.map enc)
    (hcaps : caps.all V.leaf = true ) (hp : ∀ x ∈ xs, callD T F (.agg (enc x) :: caps) h = some (.bool (p x), h)) :
    callD T 82 [.lst tg (xs.map enc), .fn F [] caps] h = some (.bool (xs.any p), h) := by
  obtain ⟨n, h1, h2⟩ := Index_phi enc xs F caps p h .ro hlen hsz hre hcaps hp
  refine W_call t82 rfl rfl (by simp) ?_
  show W T c82 _ _
  unfold c82
  repeat' (first
    | refine W_seq ?_
    | refine W_skip ?_
    | refine W_block ?_
    | refine W_ret ?_
    | refine W_exit ?_
    | refine W_ops (s1 := ?_) (by simp only [r82_0, r82_1]; simp [a82, hre, h1, h2]; exact rfl) ?_
    | refine W_tops (s1 := ?_) (by simp only [r82_0, r82_1]; simp [a82, hre, h1, h2]; exact rfl) ?_
    | refine W_cond_t (by first | (simp [a82, hre, h1, h2]; done) | fail) ?_
    | refine W_cond_f (by first | (simp [a82, hre, h1, h2]; done) | fail) ?_
    | fail)
  exact ⟨.inr rfl, [.bool (xs.any p)], by simp [a82, resV, resV1, h2], by simp [a82, packV], rfl, .refl _⟩

end Go.Proofs.YtcngflmnbdcppaaGreat

/- Functions as data; which may be told. -/
namespace Go.Proofs.YtcngflmnbdcppaaGreat
open Go.LS Go.IntWalk

structure PhiD where
  bits : Int
  dst : Int
  frm : List Int
  args : List Int
structure OpD where
  kind : Int
  bits : Int
  lanes : Int
  dst : Int
  args : List Int
  imm : Int
structure BlockD where
  phis : List PhiD
  ops : List OpD
  ek : Int
  ea : Int
  to : List Int
structure FuncD where
  params : List Int
  ret : Int
  blocks : List BlockD

def intC (n : Int) : List V := [.int .i64 n]
def listC (l : List Int) : List V := [.lst .ro (l.map intC)]
def PhiD.c (p : PhiD) : List V := [.int .i64 p.bits, .int .i64 p.dst, .lst .ro (p.frm.map intC), .lst .ro (p.args.map intC)]
def OpD.c (o : OpD) : List V := [.int .i64 o.kind, .int .i64 o.bits, .int .i64 o.lanes, .int .i64 o.dst, .lst .ro (o.args.map intC), .int .u64 o.imm]
def BlockD.c (b : BlockD) : List V := [.lst .ro (b.phis.map PhiD.c), .lst .ro (b.ops.map OpD.c), .int .i64 b.ek, .int .i64 b.ea, .lst .ro (b.to.map intC)]
def FuncD.c (f : FuncD) : List V := [.lst .ro (f.params.map intC), .int .i64 f.ret, .lst .ro (f.blocks.map BlockD.c)]

theorem retagLL_enc {α : Type} (enc : α → List V) (h : ∀ x, V.retagL (enc x) = enc x) (l : List α) : V.retagLL (l.map enc) = l.map enc := by
  induction l with
  | nil => rfl
  | cons a l ih => simp [V.retagLL, h, ih]
theorem underLL_enc {α : Type} (n : Nat) (enc : α → List V) (h : ∀ x, V.underL n (enc x) = true) (l : List α) : V.underLL n (l.map enc) = true := by
  induction l with
  | nil => rfl
  | cons a l ih => simp [V.underLL, h, ih]

@[simp] theorem retag_int (l : List Int) : V.retagLL (l.map intC) = l.map intC := retagLL_enc _ (fun _ => rfl) _
@[simp] theorem retag_list (l : List (List Int)) : V.retagLL (l.map listC) = l.map listC := retagLL_enc _ (fun _ => by simp [listC, V.retagL, V.retag]) _
@[simp] theorem retag_phi (l : List PhiD) : V.retagLL (l.map PhiD.c) = l.map PhiD.c := retagLL_enc _ (fun _ => by simp [PhiD.c, V.retagL, V.retag]) _
@[simp] theorem retag_op (l : List OpD) : V.retagLL (l.map OpD.c) = l.map OpD.c := retagLL_enc _ (fun _ => by simp [OpD.c, V.retagL, V.retag]) _
@[simp] theorem retag_block (l : List BlockD) : V.retagLL (l.map BlockD.c) = l.map BlockD.c := retagLL_enc _ (fun _ => by simp [BlockD.c, V.retagL, V.retag]) _
@[simp] theorem under_int (n : Nat) (l : List Int) : V.underLL n (l.map intC) = true := underLL_enc _ _ (fun _ => rfl) _
@[simp] theorem under_list (n : Nat) (l : List (List Int)) : V.underLL n (l.map listC) = true := underLL_enc _ _ (fun _ => by simp [listC, V.underL, V.under]) _
@[simp] theorem under_phi (n : Nat) (l : List PhiD) : V.underLL n (l.map PhiD.c) = true := underLL_enc _ _ (fun _ => by simp [PhiD.c, V.underL, V.under]) _
@[simp] theorem under_op (n : Nat) (l : List OpD) : V.underLL n (l.map OpD.c) = true := underLL_enc _ _ (fun _ => by simp [OpD.c, V.underL, V.under]) _
@[simp] theorem under_block (n : Nat) (l : List BlockD) : V.underLL n (l.map BlockD.c) = true := underLL_enc _ _ (fun _ => by simp [BlockD.c, V.underL, V.under]) _
@[simp] theorem retag_opc (o : OpD) : V.retagL o.c = o.c := by simp [OpD.c]
@[simp] theorem retag_phic (o : PhiD) : V.retagL o.c = o.c := by simp [PhiD.c]
@[simp] theorem retag_blockc (o : BlockD) : V.retagL o.c = o.c := by simp [BlockD.c]
@[simp] theorem retag_funcc (o : FuncD) : V.retagL o.c = o.c := by simp [FuncD.c]

/-- A number that can't be told. -/
def badN (n : Int) : Bool := decide (n < 0) || decide (2147483647 < n)
def badL (l : List Int) : Bool := decide (64 < l.length) || l.any badN

theorem inP_run (n : Int) (h : LS.Heap) : callD T 98 [.int .i64 n] h = some (.bool (badN n), h) := by
  refine W_call t98 rfl rfl (by simp) ?_
  show W T c98 _ _
  unfold c98
  by_cases hn : n < 0
  · skip
    repeat' (first
      | refine W_seq ?_
      | refine W_skip ?_
      | refine W_block ?_
      | refine W_ret ?_
      | refine W_exit ?_
      | refine W_ops (s1 := ?_) (by simp only [r98_0, r98_1]; simp [a98, hn]; exact rfl) ?_
      | refine W_tops (s1 := ?_) (by simp only [r98_0, r98_1]; simp [a98, hn]; exact rfl) ?_
      | refine W_cond_t (by first | (simp [a98, hn]; done) | fail) ?_
      | refine W_cond_f (by first | (simp [a98, hn]; done) | fail) ?_
      | fail)
    exact ⟨.inr rfl, [.bool (badN n)], by simp [a98, resV, resV1, badN, hn], by simp [a98, packV], rfl, .refl _⟩
  · skip
    repeat' (first
      | refine W_seq ?_
      | refine W_skip ?_
      | refine W_block ?_
      | refine W_ret ?_
      | refine W_exit ?_
      | refine W_ops (s1 := ?_) (by simp only [r98_0, r98_1]; simp [a98, hn]; exact rfl) ?_
      | refine W_tops (s1 := ?_) (by simp only [r98_0, r98_1]; simp [a98, hn]; exact rfl) ?_
      | refine W_cond_t (by first | (simp [a98, hn]; done) | fail) ?_
      | refine W_cond_f (by first | (simp [a98, hn]; done) | fail) ?_
      | fail)
    exact ⟨.inr rfl, [.bool (badN n)], by simp [a98, resV, resV1, badN, hn], by simp [a98, packV], rfl, .refl _⟩

theorem in_run (tg : Tag) (l : List Int) (hl : l.length < 2 ^ 62) (h : LS.Heap) : callD T 71 [.lst tg (l.map intC)] h = some (.bool (!l.any badN), h) := by
  have hC := Contains_int intC l 98 [] badN h .ro hl (fun _ => rfl) (by simp) rfl (fun x _ => inP_run x h)
  refine W_call t71 rfl rfl (by simp) ?_
  show W T c71 _ _
  unfold c71
  repeat' (first
    | refine W_seq ?_
    | refine W_skip ?_
    | refine W_block ?_
    | refine W_ret ?_
    | refine W_exit ?_
    | refine W_ops (s1 := ?_) (by simp only [r71_0, r71_1]; simp [a71, hC]; exact rfl) ?_
    | refine W_tops (s1 := ?_) (by simp only [r71_0, r71_1]; simp [a71, hC]; exact rfl) ?_
    | refine W_cond_t (by first | (simp [a71, hC]; done) | fail) ?_
    | refine W_cond_f (by first | (simp [a71, hC]; done) | fail) ?_
    | fail)
  exact ⟨.inr rfl, [.bool (!l.any badN)], by simp [a71, resV, resV1], by simp [a71, packV], rfl, .refl _⟩

theorem lists_run (tg : Tag) (ls : List (List Int)) (hl : ls.length < 2 ^ 62) (hll : ∀ l ∈ ls, l.length < 2 ^ 62) (h : LS.Heap) : callD T 100 [.lst tg (ls.map listC)] h = some (.bool (!ls.any badL), h) := by
  refine W_call t100 rfl rfl (by simp) ?_
  show W T c100 _ _
  unfold c100
  refine W_seq (W_ops (s1 := ?_) (by simp only [r100_0]; simp [a100]; exact rfl) ?_)
  refine W_seq (W_seq (W_ops (s1 := ?_) (by simp only [r100_1]; simp; exact rfl) ?_))
  refine W_block (W_for' l100_0.eq_1 (n := ls.length) (fun i s => s.t 5 = .lst .ro (ls.map listC) ∧ s.t 6 = .int .i64 ls.length ∧ s.t 7 = .int .i64 i ∧ s.h = h ∧ (ls.take i).any badL = false) ⟨by simp, by simp, by simp, rfl, by simp⟩ ?_ ?_)
  · rintro i ⟨t, loc, h'⟩ hi ⟨t5, t6, t7, rfl, ha⟩
    simp only at t5 t6 t7
    have hl1 : ((i : Int) < ls.length) := by omega
    have hw := i64_succ (show i < 2 ^ 62 by omega)
    have hsucc := take_any_succ hi badL
    have hin := in_run .ro ls[i] (hll _ (List.getElem_mem hi)) h'
    have hE : listC ls[i] = [.lst .ro (ls[i].map intC)] := rfl
    by_cases h64 : 64 < ls[i].length
    · have hb : badL ls[i] = true := by simp [badL, h64]
      have hall := any_of_get hi hb
      have h64' : (64 : Int) < ls[i].length := by omega
      repeat' (first
        | refine W_seq ?_
        | refine W_skip ?_
        | refine W_block ?_
        | refine W_ret ?_
        | refine W_exit ?_
        | refine W_ops (s1 := ?_) (by simp only [r100_0, r100_1, r100_2, r100_3, r100_4, r100_5, r100_6, r100_7]; simp [t5, t6, t7, hl1, hi, hE, hw, h64, h64']; exact rfl) ?_
        | refine W_tops (s1 := ?_) (by simp only [r100_0, r100_1, r100_2, r100_3, r100_4, r100_5, r100_6, r100_7]; simp [t5, t6, t7, hl1, hi, hE, hw, h64, h64']; exact rfl) ?_
        | refine W_cond_t (by first | (simp [t5, t6, t7, hl1, hi, hE, hw, h64, h64']; done) | fail) ?_
        | refine W_cond_f (by first | (simp [t5, t6, t7, hl1, hi, hE, hw, h64, h64']; done) | fail) ?_
        | fail)
      exact .inr ⟨by simp, .inr rfl, [.bool (!ls.any badL)], by simp [a100, resV, resV1, hall], by simp [a100, packV], rfl, .refl _⟩
    · have h64' : ¬ (64 : Int) < ls[i].length := by omega
      by_cases hbn : ls[i].any badN = true
      · have hb : badL ls[i] = true := by simp only [badL, hbn, Bool.or_true]
        have hall := any_of_get hi hb
        rw [hbn] at hin
        repeat' (first
          | refine W_seq ?_
          | refine W_skip ?_
          | refine W_block ?_
          | refine W_ret ?_
          | refine W_exit ?_
          | refine W_ops (s1 := ?_) (by simp only [r100_0, r100_1, r100_2, r100_3, r100_4, r100_5, r100_6, r100_7]; simp [t5, t6, t7, hl1, hi, hE, hw, h64, h64', hin]; exact rfl) ?_
          | refine W_tops (s1 := ?_) (by simp only [r100_0, r100_1, r100_2, r100_3, r100_4, r100_5, r100_6, r100_7]; simp [t5, t6, t7, hl1, hi, hE, hw, h64, h64', hin]; exact rfl) ?_
          | refine W_cond_t (by first | (simp [t5, t6, t7, hl1, hi, hE, hw, h64, h64', hin]; done) | fail) ?_
          | refine W_cond_f (by first | (simp [t5, t6, t7, hl1, hi, hE, hw, h64, h64', hin]; done) | fail) ?_
          | fail)
        exact .inr ⟨by simp, .inr rfl, [.bool (!ls.any badL)], by simp [a100, resV, resV1, hall], by simp [a100, packV], rfl, .refl _⟩
      · have hbn : ls[i].any badN = false := by simpa using hbn
        have hb : badL ls[i] = false := by simp only [badL, hbn, h64]; simp
        rw [hbn] at hin
        repeat' (first
          | refine W_seq ?_
          | refine W_skip ?_
          | refine W_block ?_
          | refine W_ret ?_
          | refine W_exit ?_
          | refine W_ops (s1 := ?_) (by simp only [r100_0, r100_1, r100_2, r100_3, r100_4, r100_5, r100_6, r100_7]; simp [t5, t6, t7, hl1, hi, hE, hw, h64, h64', hin]; exact rfl) ?_
          | refine W_tops (s1 := ?_) (by simp only [r100_0, r100_1, r100_2, r100_3, r100_4, r100_5, r100_6, r100_7]; simp [t5, t6, t7, hl1, hi, hE, hw, h64, h64', hin]; exact rfl) ?_
          | refine W_cond_t (by first | (simp [t5, t6, t7, hl1, hi, hE, hw, h64, h64', hin]; done) | fail) ?_
          | refine W_cond_f (by first | (simp [t5, t6, t7, hl1, hi, hE, hw, h64, h64', hin]; done) | fail) ?_
          | fail)
        exact .inl ⟨rfl, by simp [t5], by simp [t6], by simp, rfl, by rw [hsucc, ha, hb]; rfl⟩
  · rintro ⟨t, loc, h'⟩ ⟨t5, t6, t7, rfl, ha⟩
    simp only at t5 t6 t7
    have hall : ls.any badL = false := by rw [List.take_length] at ha; exact ha
    repeat' (first
      | refine W_seq ?_
      | refine W_skip ?_
      | refine W_block ?_
      | refine W_ret ?_
      | refine W_exit ?_
      | refine W_ops (s1 := ?_) (by simp only [r100_0, r100_1, r100_2, r100_3, r100_4, r100_5, r100_6, r100_7]; simp [t5, t6, t7]; exact rfl) ?_
      | refine W_tops (s1 := ?_) (by simp only [r100_0, r100_1, r100_2, r100_3, r100_4, r100_5, r100_6, r100_7]; simp [t5, t6, t7]; exact rfl) ?_
      | refine W_cond_t (by first | (simp [t5, t6, t7]; done) | fail) ?_
      | refine W_cond_f (by first | (simp [t5, t6, t7]; done) | fail) ?_
      | fail)
    refine ⟨by simp, ?_⟩
    repeat' (first
      | refine W_seq ?_
      | refine W_skip ?_
      | refine W_block ?_
      | refine W_ret ?_
      | refine W_exit ?_
      | refine W_ops (s1 := ?_) (by simp only [r100_0, r100_1, r100_2, r100_3, r100_4, r100_5, r100_6, r100_7]; simp; exact rfl) ?_
      | refine W_tops (s1 := ?_) (by simp only [r100_0, r100_1, r100_2, r100_3, r100_4, r100_5, r100_6, r100_7]; simp; exact rfl) ?_
      | refine W_cond_t (by first | (simp; done) | fail) ?_
      | refine W_cond_f (by first | (simp; done) | fail) ?_
      | fail)
    exact ⟨.inr rfl, [.bool (!ls.any badL)], by simp [a100, resV, resV1, hall], by simp [a100, packV], rfl, .refl _⟩

end Go.Proofs.YtcngflmnbdcppaaGreat
