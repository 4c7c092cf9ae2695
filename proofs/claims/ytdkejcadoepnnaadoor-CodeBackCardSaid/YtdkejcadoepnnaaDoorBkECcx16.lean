/-
 A text of this session's own.
-/
import Derived.Test.YtdkejcadoepnnaaDoorBkA0
import Derived.Test.YtdkejcadoepnnaaDoorBkECcx0
import Derived.Test.YtdkejcadoepnnaaDoorBkECcx8
import Derived.Test.YtdkejcadoepnnaaDoorBkXDec
import Derived.Test.YtdkejcadoepnnaaDoorBkECcx12
import Derived.Test.YtdkejcadoepnnaaDoorBkECcx15
import Derived.Test.YtdkejcadoepnnaaDoorBkX
set_option linter.unusedSimpArgs false
namespace Go.Proofs.YtdkejcadoepnnaaDoor.ECc
open Go.RowKit Go.Proofs.YtdkejcadoepnnaaDoorW.PrintWords Go.Proofs.YtdkejcadoepnnaaDoorW.PrintLast Go.Proofs.YtdkejcadoepnnaaDoorW.PrintMore
attribute [local go_sem] max2_int min2_int max_two min_two max_three min_three max_four min_four
set_option linter.unusedVariables false
open Go.Proofs.YtdkejcadoepnnaaDoor.X
mutual
def w_awake.j0 : Nat → Bool → List (S41) → List Int → Option (Bool)
 | 0, _, _, _ => none
 | k + 1, x34, x248000, x248001 => if x34 = true then (some false) else ((c_Check.f k x248000 x248001 ([] : List ByteArray)).bind fun bt252 => (if bt252.1 = 2 then (w_awake.j1 k (bt252.2.2 != 0) x248000 x248001) else (w_awake.j1 k true x248000 x248001)))
def w_awake.j1 : Nat → Bool → List (S41) → List Int → Option (Bool)
 | 0, _, _, _ => none
 | k + 1, x46, x248000, x248001 => if x46 = true then (some false) else ((c_Encode.f k x248000 x248001 ([] : List ByteArray)).bind fun bt255 => (if bt255.2 = 0 then (if (strOfNums bt255.1).toList = ([65, 66, 67, 49, 1, 0, 0, 0, 0, 0, 0, 240, 63, 0, 3, 3, 9, 1, 0, 24, 1] : List UInt8) then ((c_List.f k x248000 x248001 ([] : List ByteArray)).bind fun bt259 => (if bt259.2 = 0 then (some (bt259.1.toList == ([48, 58, 32, 118, 97, 114, 32, 57, 10, 49, 58, 32, 110, 117, 109, 32, 48, 32, 51, 102, 102, 48, 48, 48, 48, 48, 48, 48, 48, 48, 48, 48, 48, 48, 10, 50, 58, 32, 98, 105, 110, 32, 49, 10] : List UInt8))) else (some false))) else (some false)) else (some false)))
end
def w_awake.f (k : Nat)  : Option (Bool) := (some (([(⟨3, 9, 0⟩ : S41), (⟨1, 0, 0⟩ : S41), (⟨24, 1, 0⟩ : S41)] : List (S41)) : List (S41))).bind fun y241 => ((some (([4607182418800017408] : List Int) : List Int)).bind fun y244 => (if 2 < (y241.length : Int) then ((c_Effect.f k ((rd_T41 y241 2).f0) ((rd_T41 y241 2).f1) ((rd_T41 y241 2).f2)).bind fun bt249 => (if bt249.1 = 2 then (if bt249.2.1 = 1 then (w_awake.j0 k (!bt249.2.2) y241 y244) else (w_awake.j0 k true y241 y244)) else (w_awake.j0 k true y241 y244))) else (none)))
set_option maxHeartbeats 8000000 in
set_option maxRecDepth 100000 in
theorem w_awake.calls (k : Nat)  (r : Bool) (w : World) (hG : GW w) (h : w_awake.f k  = some r) :
  Calls Tryd.prog 11 #[] w fun e w' => e = .returned (.bool r) ∧ Below w.heap.size w w' := by
 have hu41 := Tryd.underlying41
 have hu26 := Tryd.underlying26
 have HB := am (Below.refl w.heap.size w)
 have HG := am hG
 clear hG
 have H : ((some (([(⟨3, 9, 0⟩ : S41), (⟨1, 0, 0⟩ : S41), (⟨24, 1, 0⟩ : S41)] : List (S41)) : List (S41))).bind fun y241 => ((some (([4607182418800017408] : List Int) : List Int)).bind fun y244 => (if 2 < (y241.length : Int) then ((c_Effect.f k ((rd_T41 y241 2).f0) ((rd_T41 y241 2).f1) ((rd_T41 y241 2).f2)).bind fun bt249 => (if bt249.1 = 2 then (if bt249.2.1 = 1 then (w_awake.j0 k (!bt249.2.2) y241 y244) else (w_awake.j0 k true y241 y244)) else (w_awake.j0 k true y241 y244))) else (none)))) = some r := h
 clear h
 obtain ⟨y241, hy241⟩ : ∃ y_ : List (S41), y_ = (([(⟨3, 9, 0⟩ : S41), (⟨1, 0, 0⟩ : S41), (⟨24, 1, 0⟩ : S41)] : List (S41))) := ⟨_, rfl⟩
 replace H : ((some (([4607182418800017408] : List Int) : List Int)).bind fun y244 => (if 2 < (y241.length : Int) then ((c_Effect.f k ((rd_T41 y241 2).f0) ((rd_T41 y241 2).f1) ((rd_T41 y241 2).f2)).bind fun bt249 => (if bt249.1 = 2 then (if bt249.2.1 = 1 then (w_awake.j0 k (!bt249.2.2) y241 y244) else (w_awake.j0 k true y241 y244)) else (w_awake.j0 k true y241 y244))) else (none))) = some r := by first | (rw [hy241]; with_reducible exact H) | (have H2_ := (Option.bind_some _ _).symm.trans H; rw [hy241]; with_reducible exact H2_) | (have H2_ := (Option.bind_some _ _).symm.trans H; with_reducible exact H2_) | with_reducible exact H | (rw [hy241]; exact H) | exact H
 have Ny241 := am hy241
 clear hy241
 obtain ⟨y244, hy244⟩ : ∃ y_ : List Int, y_ = (([4607182418800017408] : List Int)) := ⟨_, rfl⟩
 replace H : (if 2 < (y241.length : Int) then ((c_Effect.f k ((rd_T41 y241 2).f0) ((rd_T41 y241 2).f1) ((rd_T41 y241 2).f2)).bind fun bt249 => (if bt249.1 = 2 then (if bt249.2.1 = 1 then (w_awake.j0 k (!bt249.2.2) y241 y244) else (w_awake.j0 k true y241 y244)) else (w_awake.j0 k true y241 y244))) else (none)) = some r := by first | (rw [hy244]; with_reducible exact H) | (have H2_ := (Option.bind_some _ _).symm.trans H; rw [hy244]; with_reducible exact H2_) | (have H2_ := (Option.bind_some _ _).symm.trans H; with_reducible exact H2_) | with_reducible exact H | (rw [hy244]; exact H) | exact H
 have Ny244 := am hy244
 clear hy244
 by_cases c1 : 2 < (y241.length : Int)
 rotate_left
 ·rw [if_neg c1] at H
  exact absurd H (by simp)
 rw [if_pos c1] at H
 have c1b0 := decide_eq_true c1
 have c1b1 : decide (2 < y241.length) = true := decide_eq_true (by omega)
 clear c1
 replace H := Option.bind_eq_some_iff.mp H
 obtain ⟨⟨t249, t250, t251⟩, A20, H⟩ := H
 replace H : (if t249 = 2 then (if t250 = 1 then (w_awake.j0 k (!t251) y241 y244) else (w_awake.j0 k true y241 y244)) else (w_awake.j0 k true y241 y244)) = some r := H
 have A2 := am A20
 clear A20
 have HC3 := am H
 clear H
 go_enter Tryd.func11, Tryd.ntmps11
 go_upto_region 3 with (first | ((with_reducible refine gate_dst (N := 13) rfl ?_); refine Kd.R_lit k41 _ 41 ?hg (N := 13) ?hd (xs := ([(⟨3, 9, 0⟩ : S41), (⟨1, 0, 0⟩ : S41), (⟨24, 1, 0⟩ : S41)] : List (S41))) (inner := [.int .i64 3, .int .i64 9, .int .i64 0, .int .i64 1, .int .i64 0, .int .i64 0, .int .i64 24, .int .i64 1, .int .i64 0]) (ok := fun _ => True) (okp := fun _ => True) ?hr ?hp (fun _ hk => hk) trivial (Below.refl _ _) (Nat.le_refl _) (by simp) ?_; (case hd => rfl); (case hg => rfl); (case hr => first | (go_simp; done) | (go_simp; rfl)); (case hp => exact (Reps.c3 (show Kd.M k41 _ _ _ (⟨3, 9, 0⟩ : S41) [.int .i64 3, .int .i64 9, .int .i64 0] from (k41_mkM _ _ _ (⟨3, 9, 0⟩ : S41) )) (Reps.c3 (show Kd.M k41 _ _ _ (⟨1, 0, 0⟩ : S41) [.int .i64 1, .int .i64 0, .int .i64 0] from (k41_mkM _ _ _ (⟨1, 0, 0⟩ : S41) )) (Reps.c3 (show Kd.M k41 _ _ _ (⟨24, 1, 0⟩ : S41) [.int .i64 24, .int .i64 1, .int .i64 0] from (k41_mkM _ _ _ (⟨24, 1, 0⟩ : S41) )) (Reps.none _ _))))); intro v242 w4 ho5 hb hg_ hnew_; clear hg_ hnew_; (first | rw [← Ny241.out] at ho5 | (simp only [Int.reduceToNat] at ho5; rw [← Ny241.out] at ho5)); have n0_ := am (Kd.R_lower ho5 (below_size bl)); have n1_ := am (below_step bl hb); clear HB; have HO243 := n0_; have HB := n1_; clear n0_ n1_; clear hb ho5) | ((with_reducible refine gate_dst (N := 14) rfl ?_); refine Kd.R_lit (Kd.int .u64) _ 66 ?hg (N := 14) ?hd (xs := ([4607182418800017408] : List Int)) (inner := [.int .u64 4607182418800017408]) (ok := fun _ => True) (okp := fun _ => True) ?hr ?hp (fun _ hk => hk) trivial (Below.refl _ _) (Nat.le_refl _) (by simp) ?_; (case hd => rfl); (case hg => rfl); (case hr => first | (go_simp; done) | (go_simp; rfl)); (case hp => exact (Reps.one (show Kd.M (Kd.int .u64) _ _ _ 4607182418800017408 [.int .u64 4607182418800017408] from rfl) (Reps.none _ _))); intro v245 w6 ho7 hb hg_ hnew_; clear hg_ hnew_; (first | rw [← Ny244.out] at ho7 | (simp only [Int.reduceToNat] at ho7; rw [← Ny244.out] at ho7)); have n0_ := am (Kd.R_below (by (with_reducible repeat (first | apply Kd.R_alloc | apply Kd.R_drewN | apply Kd.R_drew)); exact HO243.out) hb); have n1_ := am (Kd.R_lower ho7 (below_size bl)); have n2_ := am (below_step bl hb); clear HO243; clear HB; have HO243 := n0_; have HO246 := n1_; have HB := n2_; clear n0_ n1_ n2_; clear hb ho7; obtain ⟨Ao8, co8, eo8⟩ := Kd.R_slice HO246.out; subst eo8; obtain ⟨Ao9, co9, eo9⟩ := Kd.R_slice HO243.out; subst eo9) | ((with_reducible refine gate_dst (N := 1) rfl ?_); refine box_event ?hg (N := 1) ?hd (cs := #[.slice none 0 0, .slice none 0 0, .slice none 0 0]) (t := 26) ?hr ?_; (case hd => rfl); (case hg => rfl); (case hr => first | (go_simp; done) | (go_simp; rfl)); intro gb247 hg w10 hbox hb; have n0_ := am (Kd.R_below (by (with_reducible repeat (first | apply Kd.R_alloc | apply Kd.R_drewN | apply Kd.R_drew)); exact HO243.out) hb); have n1_ := am (Kd.R_below (by (with_reducible repeat (first | apply Kd.R_alloc | apply Kd.R_drewN | apply Kd.R_drew)); exact HO246.out) hb); have n2_ := am (below_step bl hb); have n3_ := am (hbox); have n4_ := am ((by rw [hg]; exact (below_size bl) : w.heap.size ≤ gb247)); have n5_ := am ((by rw [hg]; exact (below_size bl) : w.heap.size ≤ gb247)); clear HO243; clear HO246; clear HB; have HO243 := n0_; have HO246 := n1_; have HB := n2_; have BK247 := n3_; have GW247 := n4_; have GE247 := n5_; clear n0_ n1_ n2_ n3_ n4_ n5_; clear hb hbox hg; obtain ⟨⟨hcz11_0, hcz11_1, hcz11_2⟩, hfz11_0, hfz11_1, hfz11_2⟩ := blkAll3 BK247; have p248 : 0 ≤ (2 : Int) := (by omega); have q248 : 2 < (y241.length : Int) := of_decide_eq_true od; obtain ⟨ad248, e248, hx248_0, hx248_1, hx248_2⟩ := at_T41 (Kd.R_reads' HO243.out).2.2 2 p248 q248; cases e248; (try simp only [show (2 : Int).toNat = 2 from rfl, Nat.reduceMul, Nat.reduceEqDiff, Go.Addr.add, ↓reduceIte] at hx248_0); (try simp only [show (2 : Int).toNat = 2 from rfl, Nat.reduceMul, Nat.reduceEqDiff, Go.Addr.add, ↓reduceIte] at hx248_1); (try simp only [show (2 : Int).toNat = 2 from rfl, Nat.reduceMul, Nat.reduceEqDiff, Go.Addr.add, ↓reduceIte] at hx248_2); have qi248 : (2 < y241.length) = True := eq_true (by omega); (try rw [show ((2 : Int)).toNat = 2 from rfl] at hx248_0); (try rw [show 2 * 3 = 6 from rfl] at hx248_0); (try rw [show ((2 : Int)).toNat = 2 from rfl] at hx248_1); (try rw [show 2 * 3 = 6 from rfl] at hx248_1); (try rw [show ((2 : Int)).toNat = 2 from rfl] at hx248_2); (try rw [show 2 * 3 = 6 from rfl] at hx248_2); have hn248_0 : ad248.block ≠ gb247 := Kd.own_blk (Kd.R_ne HO243.out BK247.out (by decide)); have hn248_1 : ad248.block ≠ gb247 := Kd.own_blk (Kd.R_ne HO243.out BK247.out (by decide)); have hn248_2 : ad248.block ≠ gb247 := Kd.own_blk (Kd.R_ne HO243.out BK247.out (by decide)); replace hx248_0 := (cell_far (p := ⟨gb247, 0, none⟩) (by first | (rw [add_block]; exact hn248_0) | (show (Addr.add _ _).block ≠ _; rw [add_block]; exact hn248_0) | exact hn248_0) (.slice (some ad248) y241.length co9)).trans hx248_0; replace hx248_1 := (cell_far (p := ⟨gb247, 0, none⟩) (by first | (rw [add_block]; exact hn248_0) | (show (Addr.add _ _).block ≠ _; rw [add_block]; exact hn248_0) | exact hn248_0) (.slice (some ad248) y241.length co9)).trans hx248_1; replace hx248_2 := (cell_far (p := ⟨gb247, 0, none⟩) (by first | (rw [add_block]; exact hn248_0) | (show (Addr.add _ _).block ≠ _; rw [add_block]; exact hn248_0) | exact hn248_0) (.slice (some ad248) y241.length co9)).trans hx248_2; replace hx248_0 := (cell_far (p := ⟨gb247, 1, none⟩) (by first | (rw [add_block]; exact hn248_1) | (show (Addr.add _ _).block ≠ _; rw [add_block]; exact hn248_1) | exact hn248_1) (.slice Ao8 y244.length co8)).trans hx248_0; replace hx248_1 := (cell_far (p := ⟨gb247, 1, none⟩) (by first | (rw [add_block]; exact hn248_1) | (show (Addr.add _ _).block ≠ _; rw [add_block]; exact hn248_1) | exact hn248_1) (.slice Ao8 y244.length co8)).trans hx248_1; replace hx248_2 := (cell_far (p := ⟨gb247, 1, none⟩) (by first | (rw [add_block]; exact hn248_1) | (show (Addr.add _ _).block ≠ _; rw [add_block]; exact hn248_1) | exact hn248_1) (.slice Ao8 y244.length co8)).trans hx248_2; replace hx248_0 := (cell_far (p := ⟨gb247, 2, none⟩) (by first | (rw [add_block]; exact hn248_2) | (show (Addr.add _ _).block ≠ _; rw [add_block]; exact hn248_2) | exact hn248_2) (.slice none 0 0)).trans hx248_0; replace hx248_1 := (cell_far (p := ⟨gb247, 2, none⟩) (by first | (rw [add_block]; exact hn248_2) | (show (Addr.add _ _).block ≠ _; rw [add_block]; exact hn248_2) | exact hn248_2) (.slice none 0 0)).trans hx248_1; replace hx248_2 := (cell_far (p := ⟨gb247, 2, none⟩) (by first | (rw [add_block]; exact hn248_2) | (show (Addr.add _ _).block ≠ _; rw [add_block]; exact hn248_2) | exact hn248_2) (.slice none 0 0)).trans hx248_2; clear hn248_0; clear hn248_1; clear hn248_2; replace p248 := eq_true p248; replace q248 := eq_true q248) | ((with_reducible refine gate_callee (f := 16) rfl ?_); refine goesL_ (some 21) rfl rfl Tryd.func16 (by kernel_rfl) rfl #[.agg #[.int .i64 ((rd_T41 y241 2).f0), .int .i64 ((rd_T41 y241 2).f1), .int .i64 ((rd_T41 y241 2).f2)]] rfl ls ?_; (with_reducible refine (c_Effect.calls k ((rd_T41 y241 2).f0) ((rd_T41 y241 2).f1) ((rd_T41 y241 2).f2) t249 t250 t251 _ A2.out).mono ?_); rintro e w12 ⟨rfl, hb⟩; refine ⟨_, rfl, ?_⟩; have n0_ := am (Kd.R_below (by (with_reducible repeat (first | apply Kd.R_alloc | apply Kd.R_drewN | apply Kd.R_drew)); exact (Kd.R_mono (Kd.R_far (p := ⟨gb247, 2, none⟩) (Kd.R_far (p := ⟨gb247, 1, none⟩) (Kd.R_far (p := ⟨gb247, 0, none⟩) (Kd.R_types HO243.out BK247.out (by decide)) (fun _ hk => hk.2) (.slice (some ad248) y241.length co9)) (fun _ hk => hk.2) (.slice Ao8 y244.length co8)) (fun _ hk => hk.2) (.slice none 0 0)) (fun _ h_ => h_.1))) hb); have n1_ := am (Kd.R_below (by (with_reducible repeat (first | apply Kd.R_alloc | apply Kd.R_drewN | apply Kd.R_drew)); exact (Kd.R_mono (Kd.R_far (p := ⟨gb247, 2, none⟩) (Kd.R_far (p := ⟨gb247, 1, none⟩) (Kd.R_far (p := ⟨gb247, 0, none⟩) (Kd.R_types HO246.out BK247.out (by decide)) (fun _ hk => hk.2) (.slice (some ad248) y241.length co9)) (fun _ hk => hk.2) (.slice Ao8 y244.length co8)) (fun _ hk => hk.2) (.slice none 0 0)) (fun _ h_ => h_.1))) hb); have n2_ := am (blk_below (g := gb247) (o := .cells #[.slice (some ad248) y241.length co9, .slice Ao8 y244.length co8, .slice none 0 0] 26 (0, 0)) (by refine bu ?_; refine blk_put (cs := #[.slice (some ad248) y241.length co9, .slice Ao8 y244.length co8, .slice none 0 0]) ?_ 2 _ rfl; refine bu ?_; refine blk_put (cs := #[.slice (some ad248) y241.length co9, .slice none 0 0, .slice none 0 0]) ?_ 1 _ rfl; refine bu ?_; refine blk_put (cs := #[.slice none 0 0, .slice none 0 0, .slice none 0 0]) ?_ 0 _ rfl; refine bu ?_; exact BK247.out) hb); have n3_ := am (below_step bs hb); clear HO243; clear HO246; clear BK247; clear HB; have HO243 := n0_; have HO246 := n1_; have BK247 := n2_; have HB := n3_; clear n0_ n1_ n2_ n3_; (try clear hb); (try clear hb2); (try clear hk); (try clear hi)))
 (try simp only [Act.put, List.setIfInBounds_toArray, List.set_cons_zero, List.set_cons_succ])
 go_cut [34] (fun v34 wc => ∃ (kq : Nat) (x34_2 : Bool), v34 = .bool x34_2 ∧ Aside0 (w_awake.j0 kq x34_2 y241 y244 = some r) ∧ Aside0 (kq ≤ k) ∧ Aside0 (Kd.R k41 41 wc w.heap.size (fun _ => True) (.slice (some ad248) y241.length co9) y241) ∧ Aside0 (Kd.R (Kd.int .u64) 66 wc w.heap.size (fun _ => True) (.slice Ao8 y244.length co8) y244) ∧ Aside0 (wc.heap[gb247]? = some (.cells #[(.slice (some ad248) y241.length co9), (.slice Ao8 y244.length co8), (.slice none 0 0)] 26 (0, 0))) ∧ Aside0 (Below w.heap.size w wc))
 case first =>
  have H := HC3.out
  clear HC3
  by_cases c13 : t249 = 2
  rotate_left
  ·rw [if_neg c13] at H
   have c13b0 : (t249 == 2) = false := beq_eq_false_iff_ne.mpr c13
   have c13b1 : (t249 != 2) = true := bne_iff_ne.mpr c13
   (first | rw [c13b0] | (simp only [i64_w, i32_w]; rw [c13b0]) | skip)
   have H' := am H
   clear H
   go_wp2
   go_meet
   case rel => exact ⟨_, (true), tv, H', ⟨by first | omega | exact Nat.le_refl _⟩, ⟨by (with_reducible repeat (first | apply Kd.R_alloc | apply Kd.R_drewN | apply Kd.R_drew)); exact HO243.out⟩, ⟨by (with_reducible repeat (first | apply Kd.R_alloc | apply Kd.R_drewN | apply Kd.R_drew)); exact HO246.out⟩, ⟨by refine bu ?_; exact BK247.out⟩, ⟨bs⟩⟩
  rw [if_pos c13] at H
  have c13b0 : (t249 == 2) = true := beq_iff_eq.mpr c13
  have c13b1 : (t249 != 2) = false := bne_eq_false_iff_eq.mpr c13
  clear c13
  (first | rw [c13b0] | (simp only [i64_w, i32_w]; rw [c13b0]) | skip)
  by_cases c14 : t250 = 1
  rotate_left
  ·rw [if_neg c14] at H
   have c14b0 : (t250 == 1) = false := beq_eq_false_iff_ne.mpr c14
   have c14b1 : (t250 != 1) = true := bne_iff_ne.mpr c14
   have H' := am H
   clear H
   go_wp2
   go_meet
   case rel => exact ⟨_, (true), tv, H', ⟨by first | omega | exact Nat.le_refl _⟩, ⟨by (with_reducible repeat (first | apply Kd.R_alloc | apply Kd.R_drewN | apply Kd.R_drew)); exact HO243.out⟩, ⟨by (with_reducible repeat (first | apply Kd.R_alloc | apply Kd.R_drewN | apply Kd.R_drew)); exact HO246.out⟩, ⟨by refine bu ?_; exact BK247.out⟩, ⟨bs⟩⟩
  rw [if_pos c14] at H
  have c14b0 : (t250 == 1) = true := beq_iff_eq.mpr c14
  have c14b1 : (t250 != 1) = false := bne_eq_false_iff_eq.mpr c14
  clear c14
  have H' := am H
  clear H
  go_wp2
  go_meet
  case rel => exact ⟨_, (!t251), tv, H', ⟨by first | omega | exact Nat.le_refl _⟩, ⟨by (with_reducible repeat (first | apply Kd.R_alloc | apply Kd.R_drewN | apply Kd.R_drew)); exact HO243.out⟩, ⟨by (with_reducible repeat (first | apply Kd.R_alloc | apply Kd.R_drewN | apply Kd.R_drew)); exact HO246.out⟩, ⟨by refine bu ?_; exact BK247.out⟩, ⟨bs⟩⟩
 case rest =>
  clear HC3
  try clear c1
  try clear c1b0
  try clear c1b1
  try clear p2
  try clear q2
  try clear hx2
  try clear qi2
  try clear c3
  try clear c11
  try clear c13
  try clear c13b0
  try clear c13b1
  try clear c14
  try clear c14b0
  try clear c14b1
  try clear hcz11_0 hcz11_1 hcz11_2
  try clear hfz11_0 hfz11_1 hfz11_2
  try clear hx248_0
  try clear hx248_1
  try clear hx248_2
  try clear p248
  try clear q248
  obtain ⟨kq, x34_2, rfl, HA, HJ2, HO_248000, HO_248001, BK247, HB⟩ := hcut
  cases kq with
  | zero => exact absurd HA.out (by simp [w_awake.j0])
  | succ kj2 =>
   have H := HA.out
   clear HA
   simp only [w_awake.j0] at H
   by_cases c15 : x34_2 = true
   ·subst c15
    have H1 : (some false) = some r := by rw [if_pos rfl] at H; exact H
    clear H
    have H := H1
    clear H1
    obtain rfl := Option.some.inj H
    go_wp2
    go_ret
    exact ⟨er, bs⟩
   replace c15 := Bool.eq_false_iff.mpr c15
   subst c15
   have H1 : ((c_Check.f kj2 y241 y244 ([] : List ByteArray)).bind fun bt252 => (if bt252.1 = 2 then (w_awake.j1 kj2 (bt252.2.2 != 0) y241 y244) else (w_awake.j1 kj2 true y241 y244))) = some r := by rw [if_neg (show ¬ (false = true) by decide)] at H; exact H
   clear H
   have H := H1
   clear H1
   replace H := Option.bind_eq_some_iff.mp H
   obtain ⟨⟨t252, t253, t254⟩, A160, H⟩ := H
   replace H : (if t252 = 2 then (w_awake.j1 kj2 (t254 != 0) y241 y244) else (w_awake.j1 kj2 true y241 y244)) = some r := H
   have A16 := am A160
   clear A160
   have HC17 := am H
   clear H
   obtain ⟨⟨hcz18_0, hcz18_1, hcz18_2⟩, hfz18_0, hfz18_1, hfz18_2⟩ := blkAll3 BK247
   go_upto_region 6 with (first | ((with_reducible refine gate_callee (f := 13) rfl ?_); refine goesL_ (some 37) rfl rfl Tryd.func13 (by kernel_rfl) rfl #[.agg #[.slice (some ad248) y241.length co9, .slice Ao8 y244.length co8, .slice none 0 0]] rfl ls ?_; (refine (c_Check.calls kj2 _ _ y241 _ _ y244 _ _ ([] : List ByteArray) t252 t253 t254 _ ?side1 ?side2 ?side3 ?side4 ?side5 ?side6 A16.out).mono ?_); (case side1 => repeat (first | exact (Kd.R_reads' HO_248000.out).2.2 | (with_reducible refine Kd.C_alloc ?_ _) | (with_reducible refine Kd.C_drewN ?_ _) | (with_reducible refine Kd.C_drew ?_))); (case side2 => exact (Kd.R_reads' HO_248000.out).2.1); (case side3 => repeat (first | exact (Kd.R_reads' HO_248001.out).2.2 | (with_reducible refine Kd.C_alloc ?_ _) | (with_reducible refine Kd.C_drewN ?_ _) | (with_reducible refine Kd.C_drew ?_))); (case side4 => exact (Kd.R_reads' HO_248001.out).2.1); (case side5 => exact Kd.C_nil _ _); (case side6 => exact Nat.le_refl _); rintro e w19 ⟨rfl, hb⟩; refine ⟨_, rfl, ?_⟩; have n0_ := am (Kd.R_below (by (with_reducible repeat (first | apply Kd.R_alloc | apply Kd.R_drewN | apply Kd.R_drew)); exact HO_248000.out) hb); have n1_ := am (Kd.R_below (by (with_reducible repeat (first | apply Kd.R_alloc | apply Kd.R_drewN | apply Kd.R_drew)); exact HO_248001.out) hb); have n2_ := am (blk_below (bu BK247.out) hb); have n3_ := am (below_step bs hb); clear HO_248000; clear HO_248001; clear BK247; clear HB; have HO_248000 := n0_; have HO_248001 := n1_; have BK247 := n2_; have HB := n3_; clear n0_ n1_ n2_ n3_; (try clear hb); (try clear hb2); (try clear hk); (try clear hi)))
   (try simp only [Act.put, List.setIfInBounds_toArray, List.set_cons_zero, List.set_cons_succ])
   go_cut [46] (fun v46 wc => ∃ (kq : Nat) (x46_16 : Bool), v46 = .bool x46_16 ∧ Aside0 (w_awake.j1 kq x46_16 y241 y244 = some r) ∧ Aside0 (kq ≤ kj2) ∧ Aside0 (Kd.R k41 41 wc w.heap.size (fun _ => True) (.slice (some ad248) y241.length co9) y241) ∧ Aside0 (Kd.R (Kd.int .u64) 66 wc w.heap.size (fun _ => True) (.slice Ao8 y244.length co8) y244) ∧ Aside0 (wc.heap[gb247]? = some (.cells #[(.slice (some ad248) y241.length co9), (.slice Ao8 y244.length co8), (.slice none 0 0)] 26 (0, 0))) ∧ Aside0 (Below w.heap.size w wc))
   case first =>
    have H := HC17.out
    clear HC17
    by_cases c20 : t252 = 2
    rotate_left
    ·rw [if_neg c20] at H
     have c20b0 : (t252 == 2) = false := beq_eq_false_iff_ne.mpr c20
     have c20b1 : (t252 != 2) = true := bne_iff_ne.mpr c20
     (first | rw [c20b0] | (simp only [i64_w, i32_w]; rw [c20b0]) | skip)
     have H' := am H
     clear H
     go_wp2
     go_meet
     case rel => exact ⟨_, (true), tv, H', ⟨by have := HJ2.out; first | omega | exact Nat.le_refl _⟩, ⟨by (with_reducible repeat (first | apply Kd.R_alloc | apply Kd.R_drewN | apply Kd.R_drew)); exact HO_248000.out⟩, ⟨by (with_reducible repeat (first | apply Kd.R_alloc | apply Kd.R_drewN | apply Kd.R_drew)); exact HO_248001.out⟩, ⟨by refine bu ?_; exact BK247.out⟩, ⟨bs⟩⟩
    rw [if_pos c20] at H
    have c20b0 : (t252 == 2) = true := beq_iff_eq.mpr c20
    have c20b1 : (t252 != 2) = false := bne_eq_false_iff_eq.mpr c20
    clear c20
    (first | rw [c20b0] | (simp only [i64_w, i32_w]; rw [c20b0]) | skip)
    have H' := am H
    clear H
    go_wp2
    go_meet
    case rel => exact ⟨_, ((t254 != 0)), tv, H', ⟨by have := HJ2.out; first | omega | exact Nat.le_refl _⟩, ⟨by (with_reducible repeat (first | apply Kd.R_alloc | apply Kd.R_drewN | apply Kd.R_drew)); exact HO_248000.out⟩, ⟨by (with_reducible repeat (first | apply Kd.R_alloc | apply Kd.R_drewN | apply Kd.R_drew)); exact HO_248001.out⟩, ⟨by refine bu ?_; exact BK247.out⟩, ⟨bs⟩⟩
   case rest =>
    clear HC17
    try clear c1
    try clear c1b0
    try clear c1b1
    try clear c2
    try clear p2
    try clear q2
    try clear hx2
    try clear qi2
    try clear c3
    try clear c11
    try clear c13
    try clear c13b0
    try clear c13b1
    try clear c14
    try clear c14b0
    try clear c14b1
    try clear c15
    try clear c16
    try clear c20
    try clear c20b0
    try clear c20b1
    try clear hcz11_0 hcz11_1 hcz11_2
    try clear hcz18_0 hcz18_1 hcz18_2
    try clear hfz11_0 hfz11_1 hfz11_2
    try clear hfz18_0 hfz18_1 hfz18_2
    try clear hx248_0
    try clear hx248_1
    try clear hx248_2
    try clear p2
    try clear p248
    try clear q2
    try clear q248
    obtain ⟨kq, x46_16, rfl, HA, HJ16, HO_248000, HO_248001, BK247, HB⟩ := hcut
    cases kq with
    | zero => exact absurd HA.out (by simp [w_awake.j1])
    | succ kj16 =>
     have H := HA.out
     clear HA
     simp only [w_awake.j1] at H
     by_cases c21 : x46_16 = true
     ·subst c21
      have H1 : (some false) = some r := by rw [if_pos rfl] at H; exact H
      clear H
      have H := H1
      clear H1
      obtain rfl := Option.some.inj H
      go_wp2
      go_ret
      exact ⟨er, bs⟩
     replace c21 := Bool.eq_false_iff.mpr c21
     subst c21
     have H1 : ((c_Encode.f kj16 y241 y244 ([] : List ByteArray)).bind fun bt255 => (if bt255.2 = 0 then (if (strOfNums bt255.1).toList = ([65, 66, 67, 49, 1, 0, 0, 0, 0, 0, 0, 240, 63, 0, 3, 3, 9, 1, 0, 24, 1] : List UInt8) then ((c_List.f kj16 y241 y244 ([] : List ByteArray)).bind fun bt259 => (if bt259.2 = 0 then (some (bt259.1.toList == ([48, 58, 32, 118, 97, 114, 32, 57, 10, 49, 58, 32, 110, 117, 109, 32, 48, 32, 51, 102, 102, 48, 48, 48, 48, 48, 48, 48, 48, 48, 48, 48, 48, 48, 10, 50, 58, 32, 98, 105, 110, 32, 49, 10] : List UInt8))) else (some false))) else (some false)) else (some false))) = some r := by rw [if_neg (show ¬ (false = true) by decide)] at H; exact H
     clear H
     have H := H1
     clear H1
     replace H := Option.bind_eq_some_iff.mp H
     obtain ⟨⟨t255, t258⟩, A220, H⟩ := H
     replace H : (if t258 = 0 then (if (strOfNums t255).toList = ([65, 66, 67, 49, 1, 0, 0, 0, 0, 0, 0, 240, 63, 0, 3, 3, 9, 1, 0, 24, 1] : List UInt8) then ((c_List.f kj16 y241 y244 ([] : List ByteArray)).bind fun bt259 => (if bt259.2 = 0 then (some (bt259.1.toList == ([48, 58, 32, 118, 97, 114, 32, 57, 10, 49, 58, 32, 110, 117, 109, 32, 48, 32, 51, 102, 102, 48, 48, 48, 48, 48, 48, 48, 48, 48, 48, 48, 48, 48, 10, 50, 58, 32, 98, 105, 110, 32, 49, 10] : List UInt8))) else (some false))) else (some false)) else (some false)) = some r := H
     have A22 := am A220
     clear A220
     by_cases c23 : t258 = 0
     rotate_left
     ·rw [if_neg c23] at H
      have c23b0 : (t258 == 0) = false := beq_eq_false_iff_ne.mpr c23
      have c23b1 : (t258 != 0) = true := bne_iff_ne.mpr c23
      obtain rfl := Option.some.inj H
      obtain ⟨⟨hcz40_0, hcz40_1, hcz40_2⟩, hfz40_0, hfz40_1, hfz40_2⟩ := blkAll3 BK247
      go_wp2_with (first | ((with_reducible refine gate_callee (f := 14) rfl ?_); refine goesL_ (some 49) rfl rfl Tryd.func14 (by kernel_rfl) rfl #[.agg #[.slice (some ad248) y241.length co9, .slice Ao8 y244.length co8, .slice none 0 0]] rfl ls ?_; (refine (c_Encode.calls kj16 _ _ y241 _ _ y244 _ _ ([] : List ByteArray) t255 t258 _ ?side1 ?side2 ?side3 ?side4 ?side5 ?side6 A22.out).mono ?_); (case side1 => repeat (first | exact (Kd.R_reads' HO_248000.out).2.2 | (with_reducible refine Kd.C_alloc ?_ _) | (with_reducible refine Kd.C_drewN ?_ _) | (with_reducible refine Kd.C_drew ?_))); (case side2 => exact (Kd.R_reads' HO_248000.out).2.1); (case side3 => repeat (first | exact (Kd.R_reads' HO_248001.out).2.2 | (with_reducible refine Kd.C_alloc ?_ _) | (with_reducible refine Kd.C_drewN ?_ _) | (with_reducible refine Kd.C_drew ?_))); (case side4 => exact (Kd.R_reads' HO_248001.out).2.1); (case side5 => exact Kd.C_nil _ _); (case side6 => exact Nat.le_refl _); rintro e w41 ⟨v256, rfl, ho0, hb⟩; refine ⟨_, rfl, ?_⟩; have n0_ := am (Kd.R_below (by (with_reducible repeat (first | apply Kd.R_alloc | apply Kd.R_drewN | apply Kd.R_drew)); exact HO_248000.out) hb); have n1_ := am (Kd.R_below (by (with_reducible repeat (first | apply Kd.R_alloc | apply Kd.R_drewN | apply Kd.R_drew)); exact HO_248001.out) hb); have n2_ := am (Kd.R_lower ho0 (below_size bs)); have n3_ := am (blk_below (bu BK247.out) hb); have n4_ := am (below_step bs hb); clear HO_248000; clear HO_248001; clear BK247; clear HB; have HO_248000 := n0_; have HO_248001 := n1_; have HO257 := n2_; have BK247 := n3_; have HB := n4_; clear n0_ n1_ n2_ n3_ n4_; (try clear hb); (try clear hb2); (try clear hk); (try clear hi); (try clear ho0)))
      go_ret
      exact ⟨er, bs⟩
     rw [if_pos c23] at H
     have c23b0 : (t258 == 0) = true := beq_iff_eq.mpr c23
     have c23b1 : (t258 != 0) = false := bne_eq_false_iff_eq.mpr c23
     clear c23
     by_cases c24 : (strOfNums t255).toList = ([65, 66, 67, 49, 1, 0, 0, 0, 0, 0, 0, 240, 63, 0, 3, 3, 9, 1, 0, 24, 1] : List UInt8)
     rotate_left
     ·rw [if_neg c24] at H
      have c24b0 : ((strOfNums t255).toList == ([65, 66, 67, 49, 1, 0, 0, 0, 0, 0, 0, 240, 63, 0, 3, 3, 9, 1, 0, 24, 1] : List UInt8)) = false := beq_eq_false_iff_ne.mpr c24
      have c24b1 : ((strOfNums t255).toList != ([65, 66, 67, 49, 1, 0, 0, 0, 0, 0, 0, 240, 63, 0, 3, 3, 9, 1, 0, 24, 1] : List UInt8)) = true := bne_iff_ne.mpr c24
      obtain rfl := Option.some.inj H
      obtain ⟨⟨hcz37_0, hcz37_1, hcz37_2⟩, hfz37_0, hfz37_1, hfz37_2⟩ := blkAll3 BK247
      go_wp2_with (first | ((with_reducible refine gate_callee (f := 14) rfl ?_); refine goesL_ (some 49) rfl rfl Tryd.func14 (by kernel_rfl) rfl #[.agg #[.slice (some ad248) y241.length co9, .slice Ao8 y244.length co8, .slice none 0 0]] rfl ls ?_; (refine (c_Encode.calls kj16 _ _ y241 _ _ y244 _ _ ([] : List ByteArray) t255 t258 _ ?side1 ?side2 ?side3 ?side4 ?side5 ?side6 A22.out).mono ?_); (case side1 => repeat (first | exact (Kd.R_reads' HO_248000.out).2.2 | (with_reducible refine Kd.C_alloc ?_ _) | (with_reducible refine Kd.C_drewN ?_ _) | (with_reducible refine Kd.C_drew ?_))); (case side2 => exact (Kd.R_reads' HO_248000.out).2.1); (case side3 => repeat (first | exact (Kd.R_reads' HO_248001.out).2.2 | (with_reducible refine Kd.C_alloc ?_ _) | (with_reducible refine Kd.C_drewN ?_ _) | (with_reducible refine Kd.C_drew ?_))); (case side4 => exact (Kd.R_reads' HO_248001.out).2.1); (case side5 => exact Kd.C_nil _ _); (case side6 => exact Nat.le_refl _); rintro e w38 ⟨v256, rfl, ho0, hb⟩; refine ⟨_, rfl, ?_⟩; have n0_ := am (Kd.R_below (by (with_reducible repeat (first | apply Kd.R_alloc | apply Kd.R_drewN | apply Kd.R_drew)); exact HO_248000.out) hb); have n1_ := am (Kd.R_below (by (with_reducible repeat (first | apply Kd.R_alloc | apply Kd.R_drewN | apply Kd.R_drew)); exact HO_248001.out) hb); have n2_ := am (Kd.R_lower ho0 (below_size bs)); have n3_ := am (blk_below (bu BK247.out) hb); have n4_ := am (below_step bs hb); clear HO_248000; clear HO_248001; clear BK247; clear HB; have HO_248000 := n0_; have HO_248001 := n1_; have HO257 := n2_; have BK247 := n3_; have HB := n4_; clear n0_ n1_ n2_ n3_ n4_; (try clear hb); (try clear hb2); (try clear hk); (try clear hi); (try clear ho0); have hcv39 := own_string (P := Tryd.prog) Tryd.underlying34 Tryd.underlying5 Tryd.underlying9 (Kd.own_of_R HO257.out)))
      go_ret
      exact ⟨er, bs⟩
     rw [if_pos c24] at H
     have c24b0 : ((strOfNums t255).toList == ([65, 66, 67, 49, 1, 0, 0, 0, 0, 0, 0, 240, 63, 0, 3, 3, 9, 1, 0, 24, 1] : List UInt8)) = true := beq_iff_eq.mpr c24
     have c24b1 : ((strOfNums t255).toList != ([65, 66, 67, 49, 1, 0, 0, 0, 0, 0, 0, 240, 63, 0, 3, 3, 9, 1, 0, 24, 1] : List UInt8)) = false := bne_eq_false_iff_eq.mpr c24
     clear c24
     replace H := Option.bind_eq_some_iff.mp H
     obtain ⟨⟨t259, t260⟩, A250, H⟩ := H
     replace H : (if t260 = 0 then (some (t259.toList == ([48, 58, 32, 118, 97, 114, 32, 57, 10, 49, 58, 32, 110, 117, 109, 32, 48, 32, 51, 102, 102, 48, 48, 48, 48, 48, 48, 48, 48, 48, 48, 48, 48, 48, 10, 50, 58, 32, 98, 105, 110, 32, 49, 10] : List UInt8))) else (some false)) = some r := H
     have A25 := am A250
     clear A250
     by_cases c26 : t260 = 0
     rotate_left
     ·rw [if_neg c26] at H
      have c26b0 : (t260 == 0) = false := beq_eq_false_iff_ne.mpr c26
      have c26b1 : (t260 != 0) = true := bne_iff_ne.mpr c26
      obtain rfl := Option.some.inj H
      obtain ⟨⟨hcz32_0, hcz32_1, hcz32_2⟩, hfz32_0, hfz32_1, hfz32_2⟩ := blkAll3 BK247
      go_wp2_with (first | ((with_reducible refine gate_callee (f := 14) rfl ?_); refine goesL_ (some 49) rfl rfl Tryd.func14 (by kernel_rfl) rfl #[.agg #[.slice (some ad248) y241.length co9, .slice Ao8 y244.length co8, .slice none 0 0]] rfl ls ?_; (refine (c_Encode.calls kj16 _ _ y241 _ _ y244 _ _ ([] : List ByteArray) t255 t258 _ ?side1 ?side2 ?side3 ?side4 ?side5 ?side6 A22.out).mono ?_); (case side1 => repeat (first | exact (Kd.R_reads' HO_248000.out).2.2 | (with_reducible refine Kd.C_alloc ?_ _) | (with_reducible refine Kd.C_drewN ?_ _) | (with_reducible refine Kd.C_drew ?_))); (case side2 => exact (Kd.R_reads' HO_248000.out).2.1); (case side3 => repeat (first | exact (Kd.R_reads' HO_248001.out).2.2 | (with_reducible refine Kd.C_alloc ?_ _) | (with_reducible refine Kd.C_drewN ?_ _) | (with_reducible refine Kd.C_drew ?_))); (case side4 => exact (Kd.R_reads' HO_248001.out).2.1); (case side5 => exact Kd.C_nil _ _); (case side6 => exact Nat.le_refl _); rintro e w33 ⟨v256, rfl, ho0, hb⟩; refine ⟨_, rfl, ?_⟩; have n0_ := am (Kd.R_below (by (with_reducible repeat (first | apply Kd.R_alloc | apply Kd.R_drewN | apply Kd.R_drew)); exact HO_248000.out) hb); have n1_ := am (Kd.R_below (by (with_reducible repeat (first | apply Kd.R_alloc | apply Kd.R_drewN | apply Kd.R_drew)); exact HO_248001.out) hb); have n2_ := am (Kd.R_lower ho0 (below_size bs)); have n3_ := am (blk_below (bu BK247.out) hb); have n4_ := am (below_step bs hb); clear HO_248000; clear HO_248001; clear BK247; clear HB; have HO_248000 := n0_; have HO_248001 := n1_; have HO257 := n2_; have BK247 := n3_; have HB := n4_; clear n0_ n1_ n2_ n3_ n4_; (try clear hb); (try clear hb2); (try clear hk); (try clear hi); (try clear ho0); have hcv34 := own_string (P := Tryd.prog) Tryd.underlying34 Tryd.underlying5 Tryd.underlying9 (Kd.own_of_R HO257.out); obtain ⟨⟨hcz35_0, hcz35_1, hcz35_2⟩, hfz35_0, hfz35_1, hfz35_2⟩ := blkAll3 BK247) | ((with_reducible refine gate_callee (f := 15) rfl ?_); refine goesL_ (some 61) rfl rfl Tryd.func15 (by kernel_rfl) rfl #[.agg #[.slice (some ad248) y241.length co9, .slice Ao8 y244.length co8, .slice none 0 0]] rfl ls ?_; (refine (c_List.calls kj16 _ _ y241 _ _ y244 _ _ ([] : List ByteArray) t259 t260 _ ?side1 ?side2 ?side3 ?side4 ?side5 ?side6 ?side7 A25.out).mono ?_); (case side1 => repeat (first | exact (Kd.R_reads' HO_248000.out).2.2 | (with_reducible refine Kd.C_alloc ?_ _) | (with_reducible refine Kd.C_drewN ?_ _) | (with_reducible refine Kd.C_drew ?_))); (case side2 => exact (Kd.R_reads' HO_248000.out).2.1); (case side3 => repeat (first | exact (Kd.R_reads' HO_248001.out).2.2 | (with_reducible refine Kd.C_alloc ?_ _) | (with_reducible refine Kd.C_drewN ?_ _) | (with_reducible refine Kd.C_drew ?_))); (case side4 => exact (Kd.R_reads' HO_248001.out).2.1); (case side5 => exact Kd.C_nil _ _); (case side6 => exact Nat.le_refl _); (case side7 => exact GW.below HG.out bs); rintro e w36 ⟨rfl, hb⟩; refine ⟨_, rfl, ?_⟩; have n0_ := am (Kd.R_below (by (with_reducible repeat (first | apply Kd.R_alloc | apply Kd.R_drewN | apply Kd.R_drew)); exact HO_248000.out) hb); have n1_ := am (Kd.R_below (by (with_reducible repeat (first | apply Kd.R_alloc | apply Kd.R_drewN | apply Kd.R_drew)); exact HO_248001.out) hb); have n2_ := am (Kd.R_below (by (with_reducible repeat (first | apply Kd.R_alloc | apply Kd.R_drewN | apply Kd.R_drew)); exact HO257.out) hb); have n3_ := am (blk_below (bu BK247.out) hb); have n4_ := am (below_step bs hb); clear HO_248000; clear HO_248001; clear HO257; clear BK247; clear HB; have HO_248000 := n0_; have HO_248001 := n1_; have HO257 := n2_; have BK247 := n3_; have HB := n4_; clear n0_ n1_ n2_ n3_ n4_; (try clear hb); (try clear hb2); (try clear hk); (try clear hi)))
      go_ret
      exact ⟨er, bs⟩
     rw [if_pos c26] at H
     have c26b0 : (t260 == 0) = true := beq_iff_eq.mpr c26
     have c26b1 : (t260 != 0) = false := bne_eq_false_iff_eq.mpr c26
     clear c26
     obtain rfl := Option.some.inj H
     obtain ⟨⟨hcz27_0, hcz27_1, hcz27_2⟩, hfz27_0, hfz27_1, hfz27_2⟩ := blkAll3 BK247
     go_wp2_with (first | ((with_reducible refine gate_callee (f := 14) rfl ?_); refine goesL_ (some 49) rfl rfl Tryd.func14 (by kernel_rfl) rfl #[.agg #[.slice (some ad248) y241.length co9, .slice Ao8 y244.length co8, .slice none 0 0]] rfl ls ?_; (refine (c_Encode.calls kj16 _ _ y241 _ _ y244 _ _ ([] : List ByteArray) t255 t258 _ ?side1 ?side2 ?side3 ?side4 ?side5 ?side6 A22.out).mono ?_); (case side1 => repeat (first | exact (Kd.R_reads' HO_248000.out).2.2 | (with_reducible refine Kd.C_alloc ?_ _) | (with_reducible refine Kd.C_drewN ?_ _) | (with_reducible refine Kd.C_drew ?_))); (case side2 => exact (Kd.R_reads' HO_248000.out).2.1); (case side3 => repeat (first | exact (Kd.R_reads' HO_248001.out).2.2 | (with_reducible refine Kd.C_alloc ?_ _) | (with_reducible refine Kd.C_drewN ?_ _) | (with_reducible refine Kd.C_drew ?_))); (case side4 => exact (Kd.R_reads' HO_248001.out).2.1); (case side5 => exact Kd.C_nil _ _); (case side6 => exact Nat.le_refl _); rintro e w28 ⟨v256, rfl, ho0, hb⟩; refine ⟨_, rfl, ?_⟩; have n0_ := am (Kd.R_below (by (with_reducible repeat (first | apply Kd.R_alloc | apply Kd.R_drewN | apply Kd.R_drew)); exact HO_248000.out) hb); have n1_ := am (Kd.R_below (by (with_reducible repeat (first | apply Kd.R_alloc | apply Kd.R_drewN | apply Kd.R_drew)); exact HO_248001.out) hb); have n2_ := am (Kd.R_lower ho0 (below_size bs)); have n3_ := am (blk_below (bu BK247.out) hb); have n4_ := am (below_step bs hb); clear HO_248000; clear HO_248001; clear BK247; clear HB; have HO_248000 := n0_; have HO_248001 := n1_; have HO257 := n2_; have BK247 := n3_; have HB := n4_; clear n0_ n1_ n2_ n3_ n4_; (try clear hb); (try clear hb2); (try clear hk); (try clear hi); (try clear ho0); have hcv29 := own_string (P := Tryd.prog) Tryd.underlying34 Tryd.underlying5 Tryd.underlying9 (Kd.own_of_R HO257.out); obtain ⟨⟨hcz30_0, hcz30_1, hcz30_2⟩, hfz30_0, hfz30_1, hfz30_2⟩ := blkAll3 BK247) | ((with_reducible refine gate_callee (f := 15) rfl ?_); refine goesL_ (some 61) rfl rfl Tryd.func15 (by kernel_rfl) rfl #[.agg #[.slice (some ad248) y241.length co9, .slice Ao8 y244.length co8, .slice none 0 0]] rfl ls ?_; (refine (c_List.calls kj16 _ _ y241 _ _ y244 _ _ ([] : List ByteArray) t259 t260 _ ?side1 ?side2 ?side3 ?side4 ?side5 ?side6 ?side7 A25.out).mono ?_); (case side1 => repeat (first | exact (Kd.R_reads' HO_248000.out).2.2 | (with_reducible refine Kd.C_alloc ?_ _) | (with_reducible refine Kd.C_drewN ?_ _) | (with_reducible refine Kd.C_drew ?_))); (case side2 => exact (Kd.R_reads' HO_248000.out).2.1); (case side3 => repeat (first | exact (Kd.R_reads' HO_248001.out).2.2 | (with_reducible refine Kd.C_alloc ?_ _) | (with_reducible refine Kd.C_drewN ?_ _) | (with_reducible refine Kd.C_drew ?_))); (case side4 => exact (Kd.R_reads' HO_248001.out).2.1); (case side5 => exact Kd.C_nil _ _); (case side6 => exact Nat.le_refl _); (case side7 => exact GW.below HG.out bs); rintro e w31 ⟨rfl, hb⟩; refine ⟨_, rfl, ?_⟩; have n0_ := am (Kd.R_below (by (with_reducible repeat (first | apply Kd.R_alloc | apply Kd.R_drewN | apply Kd.R_drew)); exact HO_248000.out) hb); have n1_ := am (Kd.R_below (by (with_reducible repeat (first | apply Kd.R_alloc | apply Kd.R_drewN | apply Kd.R_drew)); exact HO_248001.out) hb); have n2_ := am (Kd.R_below (by (with_reducible repeat (first | apply Kd.R_alloc | apply Kd.R_drewN | apply Kd.R_drew)); exact HO257.out) hb); have n3_ := am (blk_below (bu BK247.out) hb); have n4_ := am (below_step bs hb); clear HO_248000; clear HO_248001; clear HO257; clear BK247; clear HB; have HO_248000 := n0_; have HO_248001 := n1_; have HO257 := n2_; have BK247 := n3_; have HB := n4_; clear n0_ n1_ n2_ n3_ n4_; (try clear hb); (try clear hb2); (try clear hk); (try clear hi)))
     go_ret
     exact ⟨er, bs⟩
end Go.Proofs.YtdkejcadoepnnaaDoor.ECc
