import Derived.Test.YtfghjahmnjghgaaFrK
set_option linter.unusedVariables false
set_option linter.unusedSimpArgs false
/- LAYER 8: two frames, walked. -/
namespace Go.Proofs.Ytfghjahmnjghgaa
open Go.RowKit Go.Proofs.YtfghjahmnjghgaaW.PrintWords Go.Proofs.YtfghjahmnjghgaaW.PrintLast Go.Proofs.YtfghjahmnjghgaaW.PrintMore Go.Proofs.Ytfghjahmnjghgaa.PFr
attribute [local irreducible] Calls
set_option maxHeartbeats 8000000 in
set_option maxRecDepth 100000 in
theorem Like_any (f g : FrD) (A : Option Addr) (c : Nat) (B : Option Addr) (d : Nat) (w : World) (hC : Kd.string.C w A f.keys.length f.keys) (hc : f.keys.length ≤ c) (hD : Kd.string.C w B g.keys.length g.keys) (hd : g.keys.length ≤ d) (hn : f.keys.length ≤ 1000000) :
    Calls Try.prog 10 #[frV f (.slice A f.keys.length c), frV g (.slice B g.keys.length d)] w fun e w' => e = .returned (.bool (likeF f g)) ∧ Below w.heap.size w w' := by
  have HE := Lib.hid (fun w1 (hg : Below w.heap.size w w1) => Equal_any f.keys g.keys A c B d w1 (Kd.C_below hC hg) hc (Kd.C_below hD hg) hd hn)
  clear hC hD hc hd hn
  obtain ⟨x0, x1, x2, x3, x4, x5, x6, x7, x8, x9, x10, x11, xk⟩ := f
  obtain ⟨y0, y1, y2, y3, y4, y5, y6, y7, y8, y9, y10, y11, yk⟩ := g
  dsimp only at *
  unfold frV frC
  dsimp only
  generalize hxn : xk.length = xn at *
  generalize hyn : yk.length = yn at *
  clear hxn hyn
  have HO := ((Own.start w).alloc' (.cells #[.int .i64 x0, .int .u64 (x1 : Int), .int .u64 (x2 : Int), .int .u64 (x3 : Int), .string x4, .string x5, .int .u64 (x6 : Int), .int .u64 (x7 : Int), .string x8, .int .u64 (x9 : Int), .int .u64 (x10 : Int), .string x11, .slice A xn c] 25) rfl).alloc' (.cells #[.int .i64 y0, .int .u64 (y1 : Int), .int .u64 (y2 : Int), .int .u64 (y3 : Int), .string y4, .string y5, .int .u64 (y6 : Int), .int .u64 (y7 : Int), .string y8, .int .u64 (y9 : Int), .int .u64 (y10 : Int), .string y11, .slice B yn d] 25) (by simp : _ = w.heap.size + 1)
  have c0 := HO.cell 0 rfl
  have c1 := HO.cell 1 rfl
  by_cases hk : xk = yk
  · rw [decide_eq_true hk] at HE
    by_cases h0 : x0 = y0
    · by_cases h1 : x1 = y1
      · by_cases h2 : x2 = y2
        · by_cases h3 : x3 = y3
          · by_cases h4 : x4 = y4
            · by_cases h5 : x5 = y5
              · by_cases h6 : x6 = y6
                · by_cases h7 : x7 = y7
                  · by_cases h8 : x8 = y8
                    · by_cases h9 : x9 = y9
                      · by_cases h10 : x10 = y10
                        · by_cases h11 : x11 = y11
                          · subst hk
                            subst h0
                            subst h1
                            subst h2
                            subst h3
                            subst h4
                            subst h5
                            subst h6
                            subst h7
                            subst h8
                            subst h9
                            subst h10
                            subst h11
                            rw [show likeF _ _ = true from decide_eq_true rfl]
                            have e0 : ((x0 : Int) == x0) = true := by simp
                            have e1 : ((x1 : Int) == (x1 : Int)) = true := by simp
                            have e2 : ((x2 : Int) == (x2 : Int)) = true := by simp
                            have e3 : ((x3 : Int) == (x3 : Int)) = true := by simp
                            have e4 : (x4.toList == x4.toList) = true := by simp
                            have e5 : (x5.toList == x5.toList) = true := by simp
                            have e6 : ((x6 : Int) == (x6 : Int)) = true := by simp
                            have e7 : ((x7 : Int) == (x7 : Int)) = true := by simp
                            have e8 : (x8.toList == x8.toList) = true := by simp
                            have e9 : ((x9 : Int) == (x9 : Int)) = true := by simp
                            have e10 : ((x10 : Int) == (x10 : Int)) = true := by simp
                            have e11 : (x11.toList == x11.toList) = true := by simp
                            go_enter Try.func10, Try.ntmps10
                            go_wp2_with fail
                            refine (HE.out _ HO.below).mono ?_
                            rintro e w1 ⟨rfl, hb⟩
                            replace HO := HO.up hb
                            clear hb c0 c1
                            have c0 := HO.cell 0 rfl
                            have c1 := HO.cell 1 rfl
                            go_wp2
                            go_ret
                            exact ⟨rfl, HO.below⟩
                          · rw [show likeF _ _ = false from decide_eq_false (fun h => h11 (by injection h))]
                            have e0 : ((x0 : Int) == y0) = true := by rw [h0]; simp
                            have e1 : ((x1 : Int) == (y1 : Int)) = true := by rw [h1]; simp
                            have e2 : ((x2 : Int) == (y2 : Int)) = true := by rw [h2]; simp
                            have e3 : ((x3 : Int) == (y3 : Int)) = true := by rw [h3]; simp
                            have e4 : (x4.toList == y4.toList) = true := by rw [h4]; simp
                            have e5 : (x5.toList == y5.toList) = true := by rw [h5]; simp
                            have e6 : ((x6 : Int) == (y6 : Int)) = true := by rw [h6]; simp
                            have e7 : ((x7 : Int) == (y7 : Int)) = true := by rw [h7]; simp
                            have e8 : (x8.toList == y8.toList) = true := by rw [h8]; simp
                            have e9 : ((x9 : Int) == (y9 : Int)) = true := by rw [h9]; simp
                            have e10 : ((x10 : Int) == (y10 : Int)) = true := by rw [h10]; simp
                            have e11 : (x11.toList == y11.toList) = false := by rw [str_beqF]; exact decide_eq_false h11
                            clear hk h0 h1 h2 h3 h4 h5 h6 h7 h8 h9 h10 h11
                            go_enter Try.func10, Try.ntmps10
                            go_wp2_with fail
                            refine (HE.out _ HO.below).mono ?_
                            rintro e w1 ⟨rfl, hb⟩
                            replace HO := HO.up hb
                            clear hb c0 c1
                            have c0 := HO.cell 0 rfl
                            have c1 := HO.cell 1 rfl
                            go_wp2
                            go_ret
                            exact ⟨rfl, HO.below⟩
                        · rw [show likeF _ _ = false from decide_eq_false (fun h => h10 (by injection h))]
                          have e0 : ((x0 : Int) == y0) = true := by rw [h0]; simp
                          have e1 : ((x1 : Int) == (y1 : Int)) = true := by rw [h1]; simp
                          have e2 : ((x2 : Int) == (y2 : Int)) = true := by rw [h2]; simp
                          have e3 : ((x3 : Int) == (y3 : Int)) = true := by rw [h3]; simp
                          have e4 : (x4.toList == y4.toList) = true := by rw [h4]; simp
                          have e5 : (x5.toList == y5.toList) = true := by rw [h5]; simp
                          have e6 : ((x6 : Int) == (y6 : Int)) = true := by rw [h6]; simp
                          have e7 : ((x7 : Int) == (y7 : Int)) = true := by rw [h7]; simp
                          have e8 : (x8.toList == y8.toList) = true := by rw [h8]; simp
                          have e9 : ((x9 : Int) == (y9 : Int)) = true := by rw [h9]; simp
                          have e10 : ((x10 : Int) == (y10 : Int)) = false := by rw [beq_eq_false_iff_ne]; omega
                          clear hk h0 h1 h2 h3 h4 h5 h6 h7 h8 h9 h10
                          go_enter Try.func10, Try.ntmps10
                          go_wp2_with fail
                          refine (HE.out _ HO.below).mono ?_
                          rintro e w1 ⟨rfl, hb⟩
                          replace HO := HO.up hb
                          clear hb c0 c1
                          have c0 := HO.cell 0 rfl
                          have c1 := HO.cell 1 rfl
                          go_wp2
                          go_ret
                          exact ⟨rfl, HO.below⟩
                      · rw [show likeF _ _ = false from decide_eq_false (fun h => h9 (by injection h))]
                        have e0 : ((x0 : Int) == y0) = true := by rw [h0]; simp
                        have e1 : ((x1 : Int) == (y1 : Int)) = true := by rw [h1]; simp
                        have e2 : ((x2 : Int) == (y2 : Int)) = true := by rw [h2]; simp
                        have e3 : ((x3 : Int) == (y3 : Int)) = true := by rw [h3]; simp
                        have e4 : (x4.toList == y4.toList) = true := by rw [h4]; simp
                        have e5 : (x5.toList == y5.toList) = true := by rw [h5]; simp
                        have e6 : ((x6 : Int) == (y6 : Int)) = true := by rw [h6]; simp
                        have e7 : ((x7 : Int) == (y7 : Int)) = true := by rw [h7]; simp
                        have e8 : (x8.toList == y8.toList) = true := by rw [h8]; simp
                        have e9 : ((x9 : Int) == (y9 : Int)) = false := by rw [beq_eq_false_iff_ne]; omega
                        clear hk h0 h1 h2 h3 h4 h5 h6 h7 h8 h9
                        go_enter Try.func10, Try.ntmps10
                        go_wp2_with fail
                        refine (HE.out _ HO.below).mono ?_
                        rintro e w1 ⟨rfl, hb⟩
                        replace HO := HO.up hb
                        clear hb c0 c1
                        have c0 := HO.cell 0 rfl
                        have c1 := HO.cell 1 rfl
                        go_wp2
                        go_ret
                        exact ⟨rfl, HO.below⟩
                    · rw [show likeF _ _ = false from decide_eq_false (fun h => h8 (by injection h))]
                      have e0 : ((x0 : Int) == y0) = true := by rw [h0]; simp
                      have e1 : ((x1 : Int) == (y1 : Int)) = true := by rw [h1]; simp
                      have e2 : ((x2 : Int) == (y2 : Int)) = true := by rw [h2]; simp
                      have e3 : ((x3 : Int) == (y3 : Int)) = true := by rw [h3]; simp
                      have e4 : (x4.toList == y4.toList) = true := by rw [h4]; simp
                      have e5 : (x5.toList == y5.toList) = true := by rw [h5]; simp
                      have e6 : ((x6 : Int) == (y6 : Int)) = true := by rw [h6]; simp
                      have e7 : ((x7 : Int) == (y7 : Int)) = true := by rw [h7]; simp
                      have e8 : (x8.toList == y8.toList) = false := by rw [str_beqF]; exact decide_eq_false h8
                      clear hk h0 h1 h2 h3 h4 h5 h6 h7 h8
                      go_enter Try.func10, Try.ntmps10
                      go_wp2_with fail
                      refine (HE.out _ HO.below).mono ?_
                      rintro e w1 ⟨rfl, hb⟩
                      replace HO := HO.up hb
                      clear hb c0 c1
                      have c0 := HO.cell 0 rfl
                      have c1 := HO.cell 1 rfl
                      go_wp2
                      go_ret
                      exact ⟨rfl, HO.below⟩
                  · rw [show likeF _ _ = false from decide_eq_false (fun h => h7 (by injection h))]
                    have e0 : ((x0 : Int) == y0) = true := by rw [h0]; simp
                    have e1 : ((x1 : Int) == (y1 : Int)) = true := by rw [h1]; simp
                    have e2 : ((x2 : Int) == (y2 : Int)) = true := by rw [h2]; simp
                    have e3 : ((x3 : Int) == (y3 : Int)) = true := by rw [h3]; simp
                    have e4 : (x4.toList == y4.toList) = true := by rw [h4]; simp
                    have e5 : (x5.toList == y5.toList) = true := by rw [h5]; simp
                    have e6 : ((x6 : Int) == (y6 : Int)) = true := by rw [h6]; simp
                    have e7 : ((x7 : Int) == (y7 : Int)) = false := by rw [beq_eq_false_iff_ne]; omega
                    clear hk h0 h1 h2 h3 h4 h5 h6 h7
                    go_enter Try.func10, Try.ntmps10
                    go_wp2_with fail
                    refine (HE.out _ HO.below).mono ?_
                    rintro e w1 ⟨rfl, hb⟩
                    replace HO := HO.up hb
                    clear hb c0 c1
                    have c0 := HO.cell 0 rfl
                    have c1 := HO.cell 1 rfl
                    go_wp2
                    go_ret
                    exact ⟨rfl, HO.below⟩
                · rw [show likeF _ _ = false from decide_eq_false (fun h => h6 (by injection h))]
                  have e0 : ((x0 : Int) == y0) = true := by rw [h0]; simp
                  have e1 : ((x1 : Int) == (y1 : Int)) = true := by rw [h1]; simp
                  have e2 : ((x2 : Int) == (y2 : Int)) = true := by rw [h2]; simp
                  have e3 : ((x3 : Int) == (y3 : Int)) = true := by rw [h3]; simp
                  have e4 : (x4.toList == y4.toList) = true := by rw [h4]; simp
                  have e5 : (x5.toList == y5.toList) = true := by rw [h5]; simp
                  have e6 : ((x6 : Int) == (y6 : Int)) = false := by rw [beq_eq_false_iff_ne]; omega
                  clear hk h0 h1 h2 h3 h4 h5 h6
                  go_enter Try.func10, Try.ntmps10
                  go_wp2_with fail
                  refine (HE.out _ HO.below).mono ?_
                  rintro e w1 ⟨rfl, hb⟩
                  replace HO := HO.up hb
                  clear hb c0 c1
                  have c0 := HO.cell 0 rfl
                  have c1 := HO.cell 1 rfl
                  go_wp2
                  go_ret
                  exact ⟨rfl, HO.below⟩
              · rw [show likeF _ _ = false from decide_eq_false (fun h => h5 (by injection h))]
                have e0 : ((x0 : Int) == y0) = true := by rw [h0]; simp
                have e1 : ((x1 : Int) == (y1 : Int)) = true := by rw [h1]; simp
                have e2 : ((x2 : Int) == (y2 : Int)) = true := by rw [h2]; simp
                have e3 : ((x3 : Int) == (y3 : Int)) = true := by rw [h3]; simp
                have e4 : (x4.toList == y4.toList) = true := by rw [h4]; simp
                have e5 : (x5.toList == y5.toList) = false := by rw [str_beqF]; exact decide_eq_false h5
                clear hk h0 h1 h2 h3 h4 h5
                go_enter Try.func10, Try.ntmps10
                go_wp2_with fail
                refine (HE.out _ HO.below).mono ?_
                rintro e w1 ⟨rfl, hb⟩
                replace HO := HO.up hb
                clear hb c0 c1
                have c0 := HO.cell 0 rfl
                have c1 := HO.cell 1 rfl
                go_wp2
                go_ret
                exact ⟨rfl, HO.below⟩
            · rw [show likeF _ _ = false from decide_eq_false (fun h => h4 (by injection h))]
              have e0 : ((x0 : Int) == y0) = true := by rw [h0]; simp
              have e1 : ((x1 : Int) == (y1 : Int)) = true := by rw [h1]; simp
              have e2 : ((x2 : Int) == (y2 : Int)) = true := by rw [h2]; simp
              have e3 : ((x3 : Int) == (y3 : Int)) = true := by rw [h3]; simp
              have e4 : (x4.toList == y4.toList) = false := by rw [str_beqF]; exact decide_eq_false h4
              clear hk h0 h1 h2 h3 h4
              go_enter Try.func10, Try.ntmps10
              go_wp2_with fail
              refine (HE.out _ HO.below).mono ?_
              rintro e w1 ⟨rfl, hb⟩
              replace HO := HO.up hb
              clear hb c0 c1
              have c0 := HO.cell 0 rfl
              have c1 := HO.cell 1 rfl
              go_wp2
              go_ret
              exact ⟨rfl, HO.below⟩
          · rw [show likeF _ _ = false from decide_eq_false (fun h => h3 (by injection h))]
            have e0 : ((x0 : Int) == y0) = true := by rw [h0]; simp
            have e1 : ((x1 : Int) == (y1 : Int)) = true := by rw [h1]; simp
            have e2 : ((x2 : Int) == (y2 : Int)) = true := by rw [h2]; simp
            have e3 : ((x3 : Int) == (y3 : Int)) = false := by rw [beq_eq_false_iff_ne]; omega
            clear hk h0 h1 h2 h3
            go_enter Try.func10, Try.ntmps10
            go_wp2_with fail
            refine (HE.out _ HO.below).mono ?_
            rintro e w1 ⟨rfl, hb⟩
            replace HO := HO.up hb
            clear hb c0 c1
            have c0 := HO.cell 0 rfl
            have c1 := HO.cell 1 rfl
            go_wp2
            go_ret
            exact ⟨rfl, HO.below⟩
        · rw [show likeF _ _ = false from decide_eq_false (fun h => h2 (by injection h))]
          have e0 : ((x0 : Int) == y0) = true := by rw [h0]; simp
          have e1 : ((x1 : Int) == (y1 : Int)) = true := by rw [h1]; simp
          have e2 : ((x2 : Int) == (y2 : Int)) = false := by rw [beq_eq_false_iff_ne]; omega
          clear hk h0 h1 h2
          go_enter Try.func10, Try.ntmps10
          go_wp2_with fail
          refine (HE.out _ HO.below).mono ?_
          rintro e w1 ⟨rfl, hb⟩
          replace HO := HO.up hb
          clear hb c0 c1
          have c0 := HO.cell 0 rfl
          have c1 := HO.cell 1 rfl
          go_wp2
          go_ret
          exact ⟨rfl, HO.below⟩
      · rw [show likeF _ _ = false from decide_eq_false (fun h => h1 (by injection h))]
        have e0 : ((x0 : Int) == y0) = true := by rw [h0]; simp
        have e1 : ((x1 : Int) == (y1 : Int)) = false := by rw [beq_eq_false_iff_ne]; omega
        clear hk h0 h1
        go_enter Try.func10, Try.ntmps10
        go_wp2_with fail
        refine (HE.out _ HO.below).mono ?_
        rintro e w1 ⟨rfl, hb⟩
        replace HO := HO.up hb
        clear hb c0 c1
        have c0 := HO.cell 0 rfl
        have c1 := HO.cell 1 rfl
        go_wp2
        go_ret
        exact ⟨rfl, HO.below⟩
    · rw [show likeF _ _ = false from decide_eq_false (fun h => h0 (by injection h))]
      have e0 : ((x0 : Int) == y0) = false := by rw [beq_eq_false_iff_ne]; exact h0
      clear hk h0
      go_enter Try.func10, Try.ntmps10
      go_wp2_with fail
      refine (HE.out _ HO.below).mono ?_
      rintro e w1 ⟨rfl, hb⟩
      replace HO := HO.up hb
      clear hb c0 c1
      have c0 := HO.cell 0 rfl
      have c1 := HO.cell 1 rfl
      go_wp2
      go_ret
      exact ⟨rfl, HO.below⟩
  · rw [decide_eq_false hk] at HE
    rw [show likeF _ _ = false from decide_eq_false (fun h => hk (by injection h))]
    clear hk
    go_enter Try.func10, Try.ntmps10
    go_wp2_with fail
    refine (HE.out _ HO.below).mono ?_
    rintro e w1 ⟨rfl, hb⟩
    replace HO := HO.up hb
    clear hb c0 c1
    have c0 := HO.cell 0 rfl
    have c1 := HO.cell 1 rfl
    go_wp2
    go_ret
    exact ⟨rfl, HO.below⟩
end Go.Proofs.Ytfghjahmnjghgaa
