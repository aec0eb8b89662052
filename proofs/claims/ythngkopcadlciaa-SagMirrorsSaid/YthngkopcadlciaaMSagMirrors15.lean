import Derived.Test.YthngkopcadlciaaMSagMirrors13
import Derived.Test.YthngkopcadlciaaMSagMirrors14
import Derived.Test.YthngkopcadlciaaMSagMirrors7
import Derived.Test.YthngkopcadlciaaMSagMirrors1
import Derived.WalkKit
import Derived.ProofKit
import Derived.OpenShut
import Derived.ShutString
import Derived.ChangeOld
import Derived.Below
import Derived.SizedLaws
import Derived.ChangeSlices
import Derived.Test.YthngkopcadlciaaMSagMirrors8
import Derived.Deep.Slices
import Derived.DataShut
set_option linter.unusedVariables false
set_option linter.unusedSimpArgs false
namespace Go.Proofs.Ythngkopcadlciaa
open Go.RowKit
attribute [local irreducible] AC AR DWalk
set_option maxRecDepth 100000 in
set_option maxHeartbeats 4000000 in
theorem c_system (back : Int) (l : List RawFace) (gl off ty cl : Nat) (cs : List Value) (hra : ∀ j s, l[j]? = some s → (cs.drop (off + j * 6)).take 6 = RawFace.cells s) : Gives Try.prog 36 #[.int .i64 back, .slice (some ⟨gl, off, none⟩) l.length cl, .slice none 0 0, .int .i64 4, .bool false] [⟨gl, cs, ty, true⟩] SystemPost := by
 refine gives_fin Try.func36 rfl rfl rfl rfl (aQ (aL (ao 10 rfl rfl (st_new zero48 rfl fun g0 => (aN (aQ (aL (aM 15 (.slice none 0 0) rfl rfl (ao 16 rfl rfl (st_gv (R := []) c_glasses Try.func74 rfl (by decide) rfl rfl rfl has_nil (by simp) fun v9 N9 R9 => ?_))))))))))
 obtain ⟨gG, cap, x0, x1, rest, rfl, rfl⟩ := R9
 refine aA 11 (.slice (some ⟨gG, 0, none⟩) 2 cap) rfl rfl (aN (aQ (aL (aM 17 (.int .i64 back) rfl rfl (aM 18 (.slice (some ⟨gl, off, none⟩) l.length cl) rfl rfl (aM 19 (.slice (some ⟨gG, 0, none⟩) 2 cap) rfl rfl (aM 20 (.int .i64 4) rfl rfl ?_)))))))
 refine ao 21 rfl rfl (st_own fun hnd => st_gv (vs := [.int .i64 back, .slice (some ⟨gl, off, none⟩) l.length cl, .slice (some ⟨gG, 0, none⟩) 2 cap, .int .i64 4]) (R := [⟨gl, cs, ty, true⟩, ⟨gG, (x0.cells ++ x1.cells ++ rest), 122, true⟩]) (c_lens back l gl off ty cl gG cap cs _ rest x0 x1 rfl hra) Try.func75 rfl (by decide) rfl rfl rfl (has_cons 2 _ rfl rfl rfl rfl (has_cons 0 _ rfl rfl rfl rfl has_nil)) (nodup_two' 2 0 rfl rfl (by decide) hnd) fun v9 N9 R9 => ?_)
 obtain ⟨F, nm, bk, m, ca, aa, xs, rfl, rfl, rfl, h0, h5, hR, hF⟩ := R9
 obtain ⟨gF, rF, rfl, rfl⟩ := hR.box h0
 refine ao 12 rfl rfl (st_new zero108 rfl fun g1 => (aS [.string nm, .int .i64 bk.c, .int .i64 bk.scale, .slice (some ⟨gF, 0, none⟩) F.length ca] agg108 0 rfl rfl rfl rfl rfl rfl (aN (aQ (aQ (aL (aM 22 (.bool false) rfl rfl (aN (ac_else rfl (ac_skip (aQ ?_)))))))))))
 refine ac_env fun E1 hE1 => ?_
 have q0 : E1 0 = .int .i64 back := by rw [hE1]; rfl
 have q10 : E1 10 = .pointer (some ⟨g0, 0, none⟩) := by rw [hE1]; rfl
 have q11 : E1 11 = .slice (some ⟨gG, 0, none⟩) 2 cap := by rw [hE1]; rfl
 have q12 : E1 12 = .pointer (some ⟨g1, 0, none⟩) := by rw [hE1]; rfl
 clear hE1
 obtain ⟨E0, rfl⟩ : ∃ E0 : Env, E1 = ((((E0.put (some 0) (.int .i64 back)).put (some 10) (.pointer (some ⟨g0, 0, none⟩))).put (some 11) (.slice (some ⟨gG, 0, none⟩) 2 cap)).put (some 12) (.pointer (some ⟨g1, 0, none⟩))) := ⟨E1, by rw [put_self q0, put_self q10, put_self q11, put_self q12]⟩
 refine ac_stage follows [5, 9, 10, 11] [0, 10, 11, 12] (((((((((E0.put (some 0) (.int .i64 back)).put (some 10) (.pointer (some ⟨g0, 0, none⟩))).put (some 11) (.slice (some ⟨gG, 0, none⟩) 2 cap)).put (some 12) (.pointer (some ⟨g1, 0, none⟩))).put (some 26) (.agg #[.string nm, .int .i64 bk.c, .int .i64 bk.scale, .slice (some ⟨gF, 0, none⟩) F.length ca])).put (some 27) (.slice (some ⟨gG, 0, none⟩) 2 cap)).put (some 28) (.int .i64 back)).put (some 29) (.int .i64 (hPick back 3))).put (some 30) (.agg #[.int .i64 ((rLine (hPick back 3)).lo), .int .i64 ((rLine (hPick back 3)).hi), .bool ((rLine (hPick back 3)).no)])) (fun Sg Dn stepR doneR => ?_) ⟨rfl, rfl, rfl, rfl, trivial⟩
 refine ((fun st5_fin => ?_) : (∀ (E : Env) (b5_9 : Nat) (SB : List Surf) (opB : Iv) (mB : Nat) (xB : List Value) (eB : Int) (au9 : Option Addr) (cu9 : Nat) (Nu9 : List Box), SurfRow SB mB cu9 au9 xB Nu9 → E 10 = .pointer (some ⟨g0, 0, none⟩) → E 13 = .pointer (some ⟨b5_9, 0, none⟩) → Dn E ([⟨b5_9, [.slice au9 mB cu9, .int .i64 opB.lo, .int .i64 opB.hi, .bool opB.no], 48, false⟩, ⟨g1, [.string nm, .int .i64 bk.c, .int .i64 bk.scale, .slice (some ⟨gF, 0, none⟩) F.length ca], 108, false⟩, ⟨gF, (flatF F ++ rF), 127, false⟩, ⟨gG, (x0.cells ++ x1.cells ++ rest), 122, false⟩, ⟨g0, [.slice none 0 0, .int .i64 0, .int .i64 0, .bool false], 48, false⟩, ⟨gl, cs, ty, true⟩] ++ Nu9)) → _) ?_
 ·have st5_5 : ∀ (_u : Unit) (b5_9 : Nat) (SB : List Surf) (opB : Iv) (mB : Nat) (xB : List Value) (eB : Int) (au9 : Option Addr) (cu9 : Nat) (Nu9 : List Box), SurfRow SB mB cu9 au9 xB Nu9 → Sg [11, 5, 9, 10] [0, 1, 2, 3, 4, 6, 7, 8] (((((((((((((((E0.put (some 0) (.int .i64 back)).put (some 10) (.pointer (some ⟨g0, 0, none⟩))).put (some 11) (.slice (some ⟨gG, 0, none⟩) 2 cap)).put (some 12) (.pointer (some ⟨g1, 0, none⟩))).put (some 13) (.pointer (some ⟨b5_9, 0, none⟩))).put (some 14) (.int .i64 eB)).put (some 25) (.tuple #[.agg #[.slice au9 mB cu9, .int .i64 opB.lo, .int .i64 opB.hi, .bool opB.no], .int .i64 eB])).put (some 26) (.agg #[.string nm, .int .i64 bk.c, .int .i64 bk.scale, .slice (some ⟨gF, 0, none⟩) F.length ca])).put (some 27) (.slice (some ⟨gG, 0, none⟩) 2 cap)).put (some 28) (.int .i64 back)).put (some 29) (.int .i64 (hPick back 3))).put (some 30) (.agg #[.int .i64 ((rLine (hPick back 3)).lo), .int .i64 ((rLine (hPick back 3)).hi), .bool ((rLine (hPick back 3)).no)])).put (some 31) (.tuple #[.agg #[.slice au9 mB cu9, .int .i64 opB.lo, .int .i64 opB.hi, .bool opB.no], .int .i64 eB])).put (some 32) (.agg #[.slice au9 mB cu9, .int .i64 opB.lo, .int .i64 opB.hi, .bool opB.no])).put (some 33) (.int .i64 eB)) ([⟨b5_9, [.slice au9 mB cu9, .int .i64 opB.lo, .int .i64 opB.hi, .bool opB.no], 48, false⟩, ⟨g1, [.string nm, .int .i64 bk.c, .int .i64 bk.scale, .slice (some ⟨gF, 0, none⟩) F.length ca], 108, false⟩, ⟨gF, (flatF F ++ rF), 127, false⟩, ⟨gG, (x0.cells ++ x1.cells ++ rest), 122, false⟩, ⟨g0, [.slice none 0 0, .int .i64 0, .int .i64 0, .bool false], 48, false⟩, ⟨gl, cs, ty, true⟩] ++ Nu9) := by
   intro _u b5_9 SB opB mB xB eB au9 cu9 Nu9 Ru9
   refine stepR [11, 5, 9, 10] [0, 1, 2, 3, 4, 6, 7, 8] _ _ [] [] [] [0, 10, 11, 12, 26, 27, 28, 29, 30, 25, 32, 33, 14, 31, 13] (by kernel_rfl) (by kernel_rfl) trivial trivial (fun _ E hE => ?_)
   ·obtain ⟨w0_0, w1_10, w2_11, w3_12, w4_26, w5_27, w6_28, w7_29, w8_30, w9_25, w10_32, w11_33, w12_14, w13_31, w14_13, _⟩ := hE
    exact st5_fin E _ SB opB mB xB eB _ _ _ Ru9 w1_10 w14_13
  have st5_4 : ∀ (_u : Unit) (b5_9 : Nat) (SB : List Surf) (opB : Iv) (mB : Nat) (xB : List Value) (eB : Int) (au9 : Option Addr) (cu9 : Nat) (Nu9 : List Box), SurfRow SB mB cu9 au9 xB Nu9 → Sg [10, 5, 9] [0, 1, 2, 3, 4, 6, 7] ((((((((((((((E0.put (some 0) (.int .i64 back)).put (some 10) (.pointer (some ⟨g0, 0, none⟩))).put (some 11) (.slice (some ⟨gG, 0, none⟩) 2 cap)).put (some 12) (.pointer (some ⟨g1, 0, none⟩))).put (some 13) (.pointer (some ⟨b5_9, 0, none⟩))).put (some 25) (.tuple #[.agg #[.slice au9 mB cu9, .int .i64 opB.lo, .int .i64 opB.hi, .bool opB.no], .int .i64 eB])).put (some 26) (.agg #[.string nm, .int .i64 bk.c, .int .i64 bk.scale, .slice (some ⟨gF, 0, none⟩) F.length ca])).put (some 27) (.slice (some ⟨gG, 0, none⟩) 2 cap)).put (some 28) (.int .i64 back)).put (some 29) (.int .i64 (hPick back 3))).put (some 30) (.agg #[.int .i64 ((rLine (hPick back 3)).lo), .int .i64 ((rLine (hPick back 3)).hi), .bool ((rLine (hPick back 3)).no)])).put (some 31) (.tuple #[.agg #[.slice au9 mB cu9, .int .i64 opB.lo, .int .i64 opB.hi, .bool opB.no], .int .i64 eB])).put (some 32) (.agg #[.slice au9 mB cu9, .int .i64 opB.lo, .int .i64 opB.hi, .bool opB.no])).put (some 33) (.int .i64 eB)) ([⟨b5_9, [.slice au9 mB cu9, .int .i64 opB.lo, .int .i64 opB.hi, .bool opB.no], 48, false⟩, ⟨g1, [.string nm, .int .i64 bk.c, .int .i64 bk.scale, .slice (some ⟨gF, 0, none⟩) F.length ca], 108, false⟩, ⟨gF, (flatF F ++ rF), 127, false⟩, ⟨gG, (x0.cells ++ x1.cells ++ rest), 122, false⟩, ⟨g0, [.slice none 0 0, .int .i64 0, .int .i64 0, .bool false], 48, false⟩, ⟨gl, cs, ty, true⟩] ++ Nu9) := by
   intro _u b5_9 SB opB mB xB eB au9 cu9 Nu9 Ru9
   refine stepR [10, 5, 9] [0, 1, 2, 3, 4, 6, 7] _ _ [8] [11] [] [0, 10, 11, 12, 26, 27, 28, 29, 30, 25, 32, 33, 31, 13] (by kernel_rfl) (by kernel_rfl) ⟨?_, trivial⟩ ⟨?_, trivial⟩ (fun h => by cases h)
   ·exact tf_op (d := 33) (.int .i64 eB) rfl rfl rfl (st_ex (v := .int .i64 eB) rfl rfl rfl ⟨rfl, rfl⟩) rfl
   ·refine opR_op (d := (some 14)) rfl rfl rfl (st_assign (v := .int .i64 eB) rfl rfl ?_)
    exact ⟨_, _, _, _, st5_5 () _ _ _ _ _ _ _ _ _ Ru9, (List.Perm.refl _), by kernel_rfl, [0, 10, 11, 12, 26, 27, 28, 29, 30, 25, 32, 33, 31, 13, 14], by kernel_rfl, ⟨rfl, rfl, rfl, rfl, rfl, rfl, rfl, rfl, rfl, rfl, rfl, rfl, rfl, rfl, rfl, trivial⟩, by kernel_rfl⟩
  have st5_3 : ∀ (_u : Unit) (b5_9 : Nat) (SB : List Surf) (opB : Iv) (mB : Nat) (xB : List Value) (eB : Int) (au9 : Option Addr) (cu9 : Nat) (Nu9 : List Box), SurfRow SB mB cu9 au9 xB Nu9 → Sg [9, 5] [0, 1, 2, 3, 4] ((((((((((((((E0.put (some 0) (.int .i64 back)).put (some 10) (.pointer (some ⟨g0, 0, none⟩))).put (some 11) (.slice (some ⟨gG, 0, none⟩) 2 cap)).put (some 12) (.pointer (some ⟨g1, 0, none⟩))).put (some 13) (.pointer (some ⟨b5_9, 0, none⟩))).put (some 25) (.tuple #[.agg #[.slice au9 mB cu9, .int .i64 opB.lo, .int .i64 opB.hi, .bool opB.no], .int .i64 eB])).put (some 26) (.agg #[.string nm, .int .i64 bk.c, .int .i64 bk.scale, .slice (some ⟨gF, 0, none⟩) F.length ca])).put (some 27) (.slice (some ⟨gG, 0, none⟩) 2 cap)).put (some 28) (.int .i64 back)).put (some 29) (.int .i64 (hPick back 3))).put (some 30) (.agg #[.int .i64 ((rLine (hPick back 3)).lo), .int .i64 ((rLine (hPick back 3)).hi), .bool ((rLine (hPick back 3)).no)])).put (some 31) (.tuple #[.agg #[.slice au9 mB cu9, .int .i64 opB.lo, .int .i64 opB.hi, .bool opB.no], .int .i64 eB])).put (some 32) (.agg #[.slice au9 mB cu9, .int .i64 opB.lo, .int .i64 opB.hi, .bool opB.no])).put (some 33) (.int .i64 eB)) ([⟨b5_9, [.slice none 0 0, .int .i64 0, .int .i64 0, .bool false], 48, false⟩, ⟨g1, [.string nm, .int .i64 bk.c, .int .i64 bk.scale, .slice (some ⟨gF, 0, none⟩) F.length ca], 108, false⟩, ⟨gF, (flatF F ++ rF), 127, false⟩, ⟨gG, (x0.cells ++ x1.cells ++ rest), 122, false⟩, ⟨g0, [.slice none 0 0, .int .i64 0, .int .i64 0, .bool false], 48, false⟩, ⟨gl, cs, ty, true⟩] ++ Nu9) := by
   intro _u b5_9 SB opB mB xB eB au9 cu9 Nu9 Ru9
   refine stepR [9, 5] [0, 1, 2, 3, 4] _ _ [6, 7, 8] [10] [11] [0, 10, 11, 12, 26, 27, 28, 29, 30, 25, 32, 33, 13, 31] (by kernel_rfl) (by kernel_rfl) ⟨?_, ?_, ?_, trivial⟩ ⟨?_, trivial⟩ (fun h => by cases h)
   ·exact tf_op (d := 25) (.tuple #[.agg #[.slice au9 mB cu9, .int .i64 opB.lo, .int .i64 opB.hi, .bool opB.no], .int .i64 eB]) rfl rfl rfl (st_move (v := .tuple #[.agg #[.slice au9 mB cu9, .int .i64 opB.lo, .int .i64 opB.hi, .bool opB.no], .int .i64 eB]) rfl rfl ⟨rfl, rfl⟩) rfl
   ·exact tf_op (d := 32) (.agg #[.slice au9 mB cu9, .int .i64 opB.lo, .int .i64 opB.hi, .bool opB.no]) rfl rfl rfl (st_ex (v := .agg #[.slice au9 mB cu9, .int .i64 opB.lo, .int .i64 opB.hi, .bool opB.no]) rfl rfl rfl ⟨rfl, rfl⟩) rfl
   ·exact tf_op (d := 33) (.int .i64 eB) rfl rfl rfl (st_ex (v := .int .i64 eB) rfl rfl rfl ⟨rfl, rfl⟩) rfl
   ·refine opR_op (d := none) rfl rfl rfl (st_sta (cs := [.slice au9 mB cu9, .int .i64 opB.lo, .int .i64 opB.hi, .bool opB.no]) agg48 0 rfl rfl rfl rfl rfl rfl rfl rfl rfl ?_)
    exact ⟨_, _, _, _, st5_4 () _ _ _ _ _ _ _ _ _ Ru9, (List.Perm.refl _), by kernel_rfl, [0, 10, 11, 12, 26, 27, 28, 29, 30, 25, 32, 33, 13, 31], by kernel_rfl, ⟨rfl, rfl, rfl, rfl, rfl, rfl, rfl, rfl, rfl, rfl, rfl, rfl, rfl, rfl, trivial⟩, by kernel_rfl⟩
  have st5_2 : ∀ (_u : Unit) (b5_9 : Nat), Sg [9] [] ((((((((((E0.put (some 0) (.int .i64 back)).put (some 10) (.pointer (some ⟨g0, 0, none⟩))).put (some 11) (.slice (some ⟨gG, 0, none⟩) 2 cap)).put (some 12) (.pointer (some ⟨g1, 0, none⟩))).put (some 13) (.pointer (some ⟨b5_9, 0, none⟩))).put (some 26) (.agg #[.string nm, .int .i64 bk.c, .int .i64 bk.scale, .slice (some ⟨gF, 0, none⟩) F.length ca])).put (some 27) (.slice (some ⟨gG, 0, none⟩) 2 cap)).put (some 28) (.int .i64 back)).put (some 29) (.int .i64 (hPick back 3))).put (some 30) (.agg #[.int .i64 ((rLine (hPick back 3)).lo), .int .i64 ((rLine (hPick back 3)).hi), .bool ((rLine (hPick back 3)).no)])) ([⟨b5_9, [.slice none 0 0, .int .i64 0, .int .i64 0, .bool false], 48, false⟩, ⟨g1, [.string nm, .int .i64 bk.c, .int .i64 bk.scale, .slice (some ⟨gF, 0, none⟩) F.length ca], 108, false⟩, ⟨gF, (flatF F ++ rF), 127, false⟩, ⟨gG, (x0.cells ++ x1.cells ++ rest), 122, false⟩, ⟨g0, [.slice none 0 0, .int .i64 0, .int .i64 0, .bool false], 48, false⟩, ⟨gl, cs, ty, true⟩]) := by
   intro _u b5_9
   refine stepR [9] [] _ _ [0, 1, 2, 3, 4] [5] [6, 7, 8, 10, 11] [0, 10, 11, 12, 26, 27, 28, 29, 30, 13] (by kernel_rfl) (by kernel_rfl) ⟨?_, ?_, ?_, ?_, ?_, trivial⟩ ⟨?_, trivial⟩ (fun h => by cases h)
   ·exact tf_op (d := 26) (.agg #[.string nm, .int .i64 bk.c, .int .i64 bk.scale, .slice (some ⟨gF, 0, none⟩) F.length ca]) rfl rfl rfl (st_lda (vs := [.string nm, .int .i64 bk.c, .int .i64 bk.scale, .slice (some ⟨gF, 0, none⟩) F.length ca]) agg108 1 rfl rfl rfl rfl rfl rfl ⟨rfl, rfl⟩) rfl
   ·exact tf_op (d := 27) (.slice (some ⟨gG, 0, none⟩) 2 cap) rfl rfl rfl (st_move (v := .slice (some ⟨gG, 0, none⟩) 2 cap) rfl rfl ⟨rfl, rfl⟩) rfl
   ·exact tf_op (d := 28) (.int .i64 back) rfl rfl rfl (st_move (v := .int .i64 back) rfl rfl ⟨rfl, rfl⟩) rfl
   ·exact tf_op (d := 29) (.int .i64 (hPick back 3)) rfl rfl rfl (st_cf (c_hPick back 3 (by decide)) Try.func19 rfl (by decide) rfl rfl rfl ⟨rfl, rfl⟩) rfl
   ·exact tf_op (d := 30) (.agg #[.int .i64 ((rLine (hPick back 3)).lo), .int .i64 ((rLine (hPick back 3)).hi), .bool ((rLine (hPick back 3)).no)]) rfl rfl rfl (st_cf (c_rLine (hPick back 3)) Try.func78 rfl (by decide) rfl rfl rfl ⟨rfl, rfl⟩) rfl
   ·refine opR_op (d := (some 31)) rfl rfl rfl (st_own fun hnd => st_gvZ (vs := [.agg #[.string nm, .int .i64 bk.c, .int .i64 bk.scale, .slice (some ⟨gF, 0, none⟩) F.length ca], .slice (some ⟨gG, 0, none⟩) 2 cap, .agg #[.int .i64 ((rLine (hPick back 3)).lo), .int .i64 ((rLine (hPick back 3)).hi), .bool ((rLine (hPick back 3)).no)]]) (R := [⟨gF, (flatF F ++ rF), 127, true⟩, ⟨gG, (x0.cells ++ x1.cells ++ rest), 122, true⟩]) (c_build F nm bk gF ca gG cap _ _ rest x0 x1 rfl h0 h5 (fun j s hj => flatF_at F rF j s hj) hF (rLine (hPick back 3))) Try.func77 rfl (by decide) rfl rfl rfl (has_cons 2 _ rfl rfl rfl rfl (has_cons 3 _ rfl rfl rfl rfl has_nil)) (nodup_two 2 3 rfl rfl (by decide) hnd) (fun v H H' hp ⟨F', dn', S', H2, h1, h2, h3⟩ => ⟨F', dn', S', H2, h1, h2.trans hp, h3⟩) fun v9 Nu9 R9 => ?_)
    obtain ⟨SB, opB, mB, cu9, au9, xB, eB, rfl, Ru9⟩ := R9
    exact ⟨_, _, _, _, st5_3 () _ _ _ _ _ _ _ _ _ Ru9, (List.Perm.refl _), by kernel_rfl, [0, 10, 11, 12, 26, 27, 28, 29, 30, 13, 31], by kernel_rfl, ⟨rfl, rfl, rfl, rfl, rfl, rfl, rfl, rfl, rfl, rfl, rfl, trivial⟩, by kernel_rfl⟩
  have st5_1 : ∀ (_u : Unit) (SB : List Surf) (opB : Iv) (mB : Nat) (xB : List Value) (eB : Int) (au9 : Option Addr) (cu9 : Nat) (Nu9 : List Box), SurfRow SB mB cu9 au9 xB Nu9 → Sg [5] [0, 1, 2, 3, 4] (((((((((((((E0.put (some 0) (.int .i64 back)).put (some 10) (.pointer (some ⟨g0, 0, none⟩))).put (some 11) (.slice (some ⟨gG, 0, none⟩) 2 cap)).put (some 12) (.pointer (some ⟨g1, 0, none⟩))).put (some 25) (.tuple #[.agg #[.slice au9 mB cu9, .int .i64 opB.lo, .int .i64 opB.hi, .bool opB.no], .int .i64 eB])).put (some 26) (.agg #[.string nm, .int .i64 bk.c, .int .i64 bk.scale, .slice (some ⟨gF, 0, none⟩) F.length ca])).put (some 27) (.slice (some ⟨gG, 0, none⟩) 2 cap)).put (some 28) (.int .i64 back)).put (some 29) (.int .i64 (hPick back 3))).put (some 30) (.agg #[.int .i64 ((rLine (hPick back 3)).lo), .int .i64 ((rLine (hPick back 3)).hi), .bool ((rLine (hPick back 3)).no)])).put (some 31) (.tuple #[.agg #[.slice au9 mB cu9, .int .i64 opB.lo, .int .i64 opB.hi, .bool opB.no], .int .i64 eB])).put (some 32) (.agg #[.slice au9 mB cu9, .int .i64 opB.lo, .int .i64 opB.hi, .bool opB.no])).put (some 33) (.int .i64 eB)) ([⟨g1, [.string nm, .int .i64 bk.c, .int .i64 bk.scale, .slice (some ⟨gF, 0, none⟩) F.length ca], 108, false⟩, ⟨gF, (flatF F ++ rF), 127, false⟩, ⟨gG, (x0.cells ++ x1.cells ++ rest), 122, false⟩, ⟨g0, [.slice none 0 0, .int .i64 0, .int .i64 0, .bool false], 48, false⟩, ⟨gl, cs, ty, true⟩] ++ Nu9) := by
   intro _u SB opB mB xB eB au9 cu9 Nu9 Ru9
   refine stepR [5] [0, 1, 2, 3, 4] _ _ [6, 7, 8] [9] [10, 11] [0, 10, 11, 12, 26, 27, 28, 29, 30, 25, 32, 33, 31] (by kernel_rfl) (by kernel_rfl) ⟨?_, ?_, ?_, trivial⟩ ⟨?_, trivial⟩ (fun h => by cases h)
   ·exact tf_op (d := 25) (.tuple #[.agg #[.slice au9 mB cu9, .int .i64 opB.lo, .int .i64 opB.hi, .bool opB.no], .int .i64 eB]) rfl rfl rfl (st_move (v := .tuple #[.agg #[.slice au9 mB cu9, .int .i64 opB.lo, .int .i64 opB.hi, .bool opB.no], .int .i64 eB]) rfl rfl ⟨rfl, rfl⟩) rfl
   ·exact tf_op (d := 32) (.agg #[.slice au9 mB cu9, .int .i64 opB.lo, .int .i64 opB.hi, .bool opB.no]) rfl rfl rfl (st_ex (v := .agg #[.slice au9 mB cu9, .int .i64 opB.lo, .int .i64 opB.hi, .bool opB.no]) rfl rfl rfl ⟨rfl, rfl⟩) rfl
   ·exact tf_op (d := 33) (.int .i64 eB) rfl rfl rfl (st_ex (v := .int .i64 eB) rfl rfl rfl ⟨rfl, rfl⟩) rfl
   ·refine opR_op (d := (some 13)) rfl rfl rfl (st_new zero48 rfl fun b5_9 => ?_)
    exact ⟨_, _, _, _, st5_3 () _ _ _ _ _ _ _ _ _ Ru9, (List.Perm.refl _), by kernel_rfl, [0, 10, 11, 12, 26, 27, 28, 29, 30, 25, 32, 33, 31, 13], by kernel_rfl, ⟨rfl, rfl, rfl, rfl, rfl, rfl, rfl, rfl, rfl, rfl, rfl, rfl, rfl, rfl, trivial⟩, by kernel_rfl⟩
  refine stepR [] [] _ _ [0, 1, 2, 3, 4] [5, 9] [6, 7, 8, 10, 11] [0, 10, 11, 12, 26, 27, 28, 29, 30] (by kernel_rfl) (by kernel_rfl) ⟨?_, ?_, ?_, ?_, ?_, trivial⟩ ⟨?_, ?_, trivial⟩ (fun h => by cases h)
  ·exact tf_op (d := 26) (.agg #[.string nm, .int .i64 bk.c, .int .i64 bk.scale, .slice (some ⟨gF, 0, none⟩) F.length ca]) rfl rfl rfl (st_lda (vs := [.string nm, .int .i64 bk.c, .int .i64 bk.scale, .slice (some ⟨gF, 0, none⟩) F.length ca]) agg108 0 rfl rfl rfl rfl rfl rfl ⟨rfl, rfl⟩) rfl
  ·exact tf_op (d := 27) (.slice (some ⟨gG, 0, none⟩) 2 cap) rfl rfl rfl (st_move (v := .slice (some ⟨gG, 0, none⟩) 2 cap) rfl rfl ⟨rfl, rfl⟩) rfl
  ·exact tf_op (d := 28) (.int .i64 back) rfl rfl rfl (st_move (v := .int .i64 back) rfl rfl ⟨rfl, rfl⟩) rfl
  ·exact tf_op (d := 29) (.int .i64 (hPick back 3)) rfl rfl rfl (st_cf (c_hPick back 3 (by decide)) Try.func19 rfl (by decide) rfl rfl rfl ⟨rfl, rfl⟩) rfl
  ·exact tf_op (d := 30) (.agg #[.int .i64 ((rLine (hPick back 3)).lo), .int .i64 ((rLine (hPick back 3)).hi), .bool ((rLine (hPick back 3)).no)]) rfl rfl rfl (st_cf (c_rLine (hPick back 3)) Try.func78 rfl (by decide) rfl rfl rfl ⟨rfl, rfl⟩) rfl
  ·refine opR_op (d := (some 31)) rfl rfl rfl (st_own fun hnd => st_gvZ (vs := [.agg #[.string nm, .int .i64 bk.c, .int .i64 bk.scale, .slice (some ⟨gF, 0, none⟩) F.length ca], .slice (some ⟨gG, 0, none⟩) 2 cap, .agg #[.int .i64 ((rLine (hPick back 3)).lo), .int .i64 ((rLine (hPick back 3)).hi), .bool ((rLine (hPick back 3)).no)]]) (R := [⟨gF, (flatF F ++ rF), 127, true⟩, ⟨gG, (x0.cells ++ x1.cells ++ rest), 122, true⟩]) (c_build F nm bk gF ca gG cap _ _ rest x0 x1 rfl h0 h5 (fun j s hj => flatF_at F rF j s hj) hF (rLine (hPick back 3))) Try.func77 rfl (by decide) rfl rfl rfl (has_cons 1 _ rfl rfl rfl rfl (has_cons 2 _ rfl rfl rfl rfl has_nil)) (nodup_two 1 2 rfl rfl (by decide) hnd) (fun v H H' hp ⟨F', dn', S', H2, h1, h2, h3⟩ => ⟨F', dn', S', H2, h1, h2.trans hp, h3⟩) fun v9 Nu9 R9 => ?_)
   obtain ⟨SB, opB, mB, cu9, au9, xB, eB, rfl, Ru9⟩ := R9
   exact ⟨_, _, _, _, st5_1 () _ _ _ _ _ _ _ _ Ru9, (List.Perm.refl _), by kernel_rfl, [0, 10, 11, 12, 26, 27, 28, 29, 30, 31], by kernel_rfl, ⟨rfl, rfl, rfl, rfl, rfl, rfl, rfl, rfl, rfl, rfl, trivial⟩, by kernel_rfl⟩
  ·refine opR_op (d := (some 13)) rfl rfl rfl (st_new zero48 rfl fun b5_9 => ?_)
   exact ⟨_, _, _, _, st5_2 () _, (List.Perm.refl _), by kernel_rfl, [0, 10, 11, 12, 26, 27, 28, 29, 30, 13], by kernel_rfl, ⟨rfl, rfl, rfl, rfl, rfl, rfl, rfl, rfl, rfl, rfl, trivial⟩, by kernel_rfl⟩
 intro E b5_9 SB opB mB xB eB au9 cu9 Nu9 Ru9 q10 q13
 obtain ⟨E0, rfl⟩ : ∃ E0 : Env, E = ((E0.put (some 10) (.pointer (some ⟨g0, 0, none⟩))).put (some 13) (.pointer (some ⟨b5_9, 0, none⟩))) := ⟨E, by rw [put_self q10, put_self q13]⟩
 refine doneR _ _ (aQ (aL (aG 34 [.slice au9 mB cu9, .int .i64 opB.lo, .int .i64 opB.hi, .bool opB.no] agg48 0 rfl rfl rfl rfl rfl (aS [.slice au9 mB cu9, .int .i64 opB.lo, .int .i64 opB.hi, .bool opB.no] agg48 4 rfl rfl rfl rfl rfl rfl (aN (ac_ret ?_))))))
 exact fing_ret (N := Nu9) ⟨SB, opB, mB, cu9, au9, xB, rfl, Ru9⟩ (List.sublist_append_right ([⟨b5_9, [.slice au9 mB cu9, .int .i64 opB.lo, .int .i64 opB.hi, .bool opB.no], 48, false⟩, ⟨g1, [.string nm, .int .i64 bk.c, .int .i64 bk.scale, .slice (some ⟨gF, 0, none⟩) F.length ca], 108, false⟩, ⟨gF, (flatF F ++ rF), 127, false⟩, ⟨gG, (x0.cells ++ x1.cells ++ rest), 122, false⟩, ⟨g0, [.slice au9 mB cu9, .int .i64 opB.lo, .int .i64 opB.hi, .bool opB.no], 48, false⟩, ⟨gl, cs, ty, true⟩] : List Box) Nu9) (Row.free Ru9.2.2.2.1) (res_c (vs := [.slice au9 mB cu9, .int .i64 opB.lo, .int .i64 opB.hi, .bool opB.no]) agg48 4 rfl rfl rfl rfl rfl rfl)
set_option maxRecDepth 100000 in
set_option maxHeartbeats 4000000 in
theorem c_system0 (back : Int) (a : Option Addr) (cl : Nat) : Gives Try.prog 36 #[.int .i64 back, .slice a 0 cl, .slice none 0 0, .int .i64 4, .bool false] [] SystemPost := by
 refine gives_fin Try.func36 rfl rfl rfl rfl (aQ (aL (ao 10 rfl rfl (st_new zero48 rfl fun g0 => (aN (aQ (aL (aM 15 (.slice none 0 0) rfl rfl (ao 16 rfl rfl (st_gv (R := []) c_glasses Try.func74 rfl (by decide) rfl rfl rfl has_nil (by simp) fun v9 N9 R9 => ?_))))))))))
 obtain ⟨gG, cap, x0, x1, rest, rfl, rfl⟩ := R9
 refine aA 11 (.slice (some ⟨gG, 0, none⟩) 2 cap) rfl rfl (aN (aQ (aL (aM 17 (.int .i64 back) rfl rfl (aM 18 (.slice a 0 cl) rfl rfl (aM 19 (.slice (some ⟨gG, 0, none⟩) 2 cap) rfl rfl (aM 20 (.int .i64 4) rfl rfl (ao 21 rfl rfl (st_own fun hnd => st_gv (vs := [.int .i64 back, .slice a 0 cl, .slice (some ⟨gG, 0, none⟩) 2 cap, .int .i64 4]) (R := [⟨gG, (x0.cells ++ x1.cells ++ rest), 122, true⟩]) (c_lens0 back a cl gG cap _) Try.func75 rfl (by decide) rfl rfl rfl (has_cons 0 _ rfl rfl rfl rfl has_nil) (by simp) fun v9 N9 R9 => ?_)))))))))
 obtain ⟨F, nm, bk, m, ca, aa, xs, rfl, rfl, rfl, h0, h5, hR, hF⟩ := R9
 obtain ⟨gF, rF, rfl, rfl⟩ := hR.box h0
 refine ao 12 rfl rfl (st_new zero108 rfl fun g1 => (aS [.string nm, .int .i64 bk.c, .int .i64 bk.scale, .slice (some ⟨gF, 0, none⟩) F.length ca] agg108 0 rfl rfl rfl rfl rfl rfl (aN (aQ (aQ (aL (aM 22 (.bool false) rfl rfl (aN (ac_else rfl (ac_skip (aQ ?_)))))))))))
 refine ac_env fun E1 hE1 => ?_
 have q0 : E1 0 = .int .i64 back := by rw [hE1]; rfl
 have q10 : E1 10 = .pointer (some ⟨g0, 0, none⟩) := by rw [hE1]; rfl
 have q11 : E1 11 = .slice (some ⟨gG, 0, none⟩) 2 cap := by rw [hE1]; rfl
 have q12 : E1 12 = .pointer (some ⟨g1, 0, none⟩) := by rw [hE1]; rfl
 clear hE1
 obtain ⟨E0, rfl⟩ : ∃ E0 : Env, E1 = ((((E0.put (some 0) (.int .i64 back)).put (some 10) (.pointer (some ⟨g0, 0, none⟩))).put (some 11) (.slice (some ⟨gG, 0, none⟩) 2 cap)).put (some 12) (.pointer (some ⟨g1, 0, none⟩))) := ⟨E1, by rw [put_self q0, put_self q10, put_self q11, put_self q12]⟩
 refine ac_stage follows [5, 9, 10, 11] [0, 10, 11, 12] (((((((((E0.put (some 0) (.int .i64 back)).put (some 10) (.pointer (some ⟨g0, 0, none⟩))).put (some 11) (.slice (some ⟨gG, 0, none⟩) 2 cap)).put (some 12) (.pointer (some ⟨g1, 0, none⟩))).put (some 26) (.agg #[.string nm, .int .i64 bk.c, .int .i64 bk.scale, .slice (some ⟨gF, 0, none⟩) F.length ca])).put (some 27) (.slice (some ⟨gG, 0, none⟩) 2 cap)).put (some 28) (.int .i64 back)).put (some 29) (.int .i64 (hPick back 3))).put (some 30) (.agg #[.int .i64 ((rLine (hPick back 3)).lo), .int .i64 ((rLine (hPick back 3)).hi), .bool ((rLine (hPick back 3)).no)])) (fun Sg Dn stepR doneR => ?_) ⟨rfl, rfl, rfl, rfl, trivial⟩
 refine ((fun st5_fin => ?_) : (∀ (E : Env) (b5_9 : Nat) (SB : List Surf) (opB : Iv) (mB : Nat) (xB : List Value) (eB : Int) (au9 : Option Addr) (cu9 : Nat) (Nu9 : List Box), SurfRow SB mB cu9 au9 xB Nu9 → E 10 = .pointer (some ⟨g0, 0, none⟩) → E 13 = .pointer (some ⟨b5_9, 0, none⟩) → Dn E ([⟨b5_9, [.slice au9 mB cu9, .int .i64 opB.lo, .int .i64 opB.hi, .bool opB.no], 48, false⟩, ⟨g1, [.string nm, .int .i64 bk.c, .int .i64 bk.scale, .slice (some ⟨gF, 0, none⟩) F.length ca], 108, false⟩, ⟨gF, (flatF F ++ rF), 127, false⟩, ⟨gG, (x0.cells ++ x1.cells ++ rest), 122, false⟩, ⟨g0, [.slice none 0 0, .int .i64 0, .int .i64 0, .bool false], 48, false⟩] ++ Nu9)) → _) ?_
 ·have st5_5 : ∀ (_u : Unit) (b5_9 : Nat) (SB : List Surf) (opB : Iv) (mB : Nat) (xB : List Value) (eB : Int) (au9 : Option Addr) (cu9 : Nat) (Nu9 : List Box), SurfRow SB mB cu9 au9 xB Nu9 → Sg [11, 5, 9, 10] [0, 1, 2, 3, 4, 6, 7, 8] (((((((((((((((E0.put (some 0) (.int .i64 back)).put (some 10) (.pointer (some ⟨g0, 0, none⟩))).put (some 11) (.slice (some ⟨gG, 0, none⟩) 2 cap)).put (some 12) (.pointer (some ⟨g1, 0, none⟩))).put (some 13) (.pointer (some ⟨b5_9, 0, none⟩))).put (some 14) (.int .i64 eB)).put (some 25) (.tuple #[.agg #[.slice au9 mB cu9, .int .i64 opB.lo, .int .i64 opB.hi, .bool opB.no], .int .i64 eB])).put (some 26) (.agg #[.string nm, .int .i64 bk.c, .int .i64 bk.scale, .slice (some ⟨gF, 0, none⟩) F.length ca])).put (some 27) (.slice (some ⟨gG, 0, none⟩) 2 cap)).put (some 28) (.int .i64 back)).put (some 29) (.int .i64 (hPick back 3))).put (some 30) (.agg #[.int .i64 ((rLine (hPick back 3)).lo), .int .i64 ((rLine (hPick back 3)).hi), .bool ((rLine (hPick back 3)).no)])).put (some 31) (.tuple #[.agg #[.slice au9 mB cu9, .int .i64 opB.lo, .int .i64 opB.hi, .bool opB.no], .int .i64 eB])).put (some 32) (.agg #[.slice au9 mB cu9, .int .i64 opB.lo, .int .i64 opB.hi, .bool opB.no])).put (some 33) (.int .i64 eB)) ([⟨b5_9, [.slice au9 mB cu9, .int .i64 opB.lo, .int .i64 opB.hi, .bool opB.no], 48, false⟩, ⟨g1, [.string nm, .int .i64 bk.c, .int .i64 bk.scale, .slice (some ⟨gF, 0, none⟩) F.length ca], 108, false⟩, ⟨gF, (flatF F ++ rF), 127, false⟩, ⟨gG, (x0.cells ++ x1.cells ++ rest), 122, false⟩, ⟨g0, [.slice none 0 0, .int .i64 0, .int .i64 0, .bool false], 48, false⟩] ++ Nu9) := by
   intro _u b5_9 SB opB mB xB eB au9 cu9 Nu9 Ru9
   refine stepR [11, 5, 9, 10] [0, 1, 2, 3, 4, 6, 7, 8] _ _ [] [] [] [0, 10, 11, 12, 26, 27, 28, 29, 30, 25, 32, 33, 14, 31, 13] (by kernel_rfl) (by kernel_rfl) trivial trivial (fun _ E hE => ?_)
   ·obtain ⟨w0_0, w1_10, w2_11, w3_12, w4_26, w5_27, w6_28, w7_29, w8_30, w9_25, w10_32, w11_33, w12_14, w13_31, w14_13, _⟩ := hE
    exact st5_fin E _ SB opB mB xB eB _ _ _ Ru9 w1_10 w14_13
  have st5_4 : ∀ (_u : Unit) (b5_9 : Nat) (SB : List Surf) (opB : Iv) (mB : Nat) (xB : List Value) (eB : Int) (au9 : Option Addr) (cu9 : Nat) (Nu9 : List Box), SurfRow SB mB cu9 au9 xB Nu9 → Sg [10, 5, 9] [0, 1, 2, 3, 4, 6, 7] ((((((((((((((E0.put (some 0) (.int .i64 back)).put (some 10) (.pointer (some ⟨g0, 0, none⟩))).put (some 11) (.slice (some ⟨gG, 0, none⟩) 2 cap)).put (some 12) (.pointer (some ⟨g1, 0, none⟩))).put (some 13) (.pointer (some ⟨b5_9, 0, none⟩))).put (some 25) (.tuple #[.agg #[.slice au9 mB cu9, .int .i64 opB.lo, .int .i64 opB.hi, .bool opB.no], .int .i64 eB])).put (some 26) (.agg #[.string nm, .int .i64 bk.c, .int .i64 bk.scale, .slice (some ⟨gF, 0, none⟩) F.length ca])).put (some 27) (.slice (some ⟨gG, 0, none⟩) 2 cap)).put (some 28) (.int .i64 back)).put (some 29) (.int .i64 (hPick back 3))).put (some 30) (.agg #[.int .i64 ((rLine (hPick back 3)).lo), .int .i64 ((rLine (hPick back 3)).hi), .bool ((rLine (hPick back 3)).no)])).put (some 31) (.tuple #[.agg #[.slice au9 mB cu9, .int .i64 opB.lo, .int .i64 opB.hi, .bool opB.no], .int .i64 eB])).put (some 32) (.agg #[.slice au9 mB cu9, .int .i64 opB.lo, .int .i64 opB.hi, .bool opB.no])).put (some 33) (.int .i64 eB)) ([⟨b5_9, [.slice au9 mB cu9, .int .i64 opB.lo, .int .i64 opB.hi, .bool opB.no], 48, false⟩, ⟨g1, [.string nm, .int .i64 bk.c, .int .i64 bk.scale, .slice (some ⟨gF, 0, none⟩) F.length ca], 108, false⟩, ⟨gF, (flatF F ++ rF), 127, false⟩, ⟨gG, (x0.cells ++ x1.cells ++ rest), 122, false⟩, ⟨g0, [.slice none 0 0, .int .i64 0, .int .i64 0, .bool false], 48, false⟩] ++ Nu9) := by
   intro _u b5_9 SB opB mB xB eB au9 cu9 Nu9 Ru9
   refine stepR [10, 5, 9] [0, 1, 2, 3, 4, 6, 7] _ _ [8] [11] [] [0, 10, 11, 12, 26, 27, 28, 29, 30, 25, 32, 33, 31, 13] (by kernel_rfl) (by kernel_rfl) ⟨?_, trivial⟩ ⟨?_, trivial⟩ (fun h => by cases h)
   ·exact tf_op (d := 33) (.int .i64 eB) rfl rfl rfl (st_ex (v := .int .i64 eB) rfl rfl rfl ⟨rfl, rfl⟩) rfl
   ·refine opR_op (d := (some 14)) rfl rfl rfl (st_assign (v := .int .i64 eB) rfl rfl ?_)
    exact ⟨_, _, _, _, st5_5 () _ _ _ _ _ _ _ _ _ Ru9, (List.Perm.refl _), by kernel_rfl, [0, 10, 11, 12, 26, 27, 28, 29, 30, 25, 32, 33, 31, 13, 14], by kernel_rfl, ⟨rfl, rfl, rfl, rfl, rfl, rfl, rfl, rfl, rfl, rfl, rfl, rfl, rfl, rfl, rfl, trivial⟩, by kernel_rfl⟩
  have st5_3 : ∀ (_u : Unit) (b5_9 : Nat) (SB : List Surf) (opB : Iv) (mB : Nat) (xB : List Value) (eB : Int) (au9 : Option Addr) (cu9 : Nat) (Nu9 : List Box), SurfRow SB mB cu9 au9 xB Nu9 → Sg [9, 5] [0, 1, 2, 3, 4] ((((((((((((((E0.put (some 0) (.int .i64 back)).put (some 10) (.pointer (some ⟨g0, 0, none⟩))).put (some 11) (.slice (some ⟨gG, 0, none⟩) 2 cap)).put (some 12) (.pointer (some ⟨g1, 0, none⟩))).put (some 13) (.pointer (some ⟨b5_9, 0, none⟩))).put (some 25) (.tuple #[.agg #[.slice au9 mB cu9, .int .i64 opB.lo, .int .i64 opB.hi, .bool opB.no], .int .i64 eB])).put (some 26) (.agg #[.string nm, .int .i64 bk.c, .int .i64 bk.scale, .slice (some ⟨gF, 0, none⟩) F.length ca])).put (some 27) (.slice (some ⟨gG, 0, none⟩) 2 cap)).put (some 28) (.int .i64 back)).put (some 29) (.int .i64 (hPick back 3))).put (some 30) (.agg #[.int .i64 ((rLine (hPick back 3)).lo), .int .i64 ((rLine (hPick back 3)).hi), .bool ((rLine (hPick back 3)).no)])).put (some 31) (.tuple #[.agg #[.slice au9 mB cu9, .int .i64 opB.lo, .int .i64 opB.hi, .bool opB.no], .int .i64 eB])).put (some 32) (.agg #[.slice au9 mB cu9, .int .i64 opB.lo, .int .i64 opB.hi, .bool opB.no])).put (some 33) (.int .i64 eB)) ([⟨b5_9, [.slice none 0 0, .int .i64 0, .int .i64 0, .bool false], 48, false⟩, ⟨g1, [.string nm, .int .i64 bk.c, .int .i64 bk.scale, .slice (some ⟨gF, 0, none⟩) F.length ca], 108, false⟩, ⟨gF, (flatF F ++ rF), 127, false⟩, ⟨gG, (x0.cells ++ x1.cells ++ rest), 122, false⟩, ⟨g0, [.slice none 0 0, .int .i64 0, .int .i64 0, .bool false], 48, false⟩] ++ Nu9) := by
   intro _u b5_9 SB opB mB xB eB au9 cu9 Nu9 Ru9
   refine stepR [9, 5] [0, 1, 2, 3, 4] _ _ [6, 7, 8] [10] [11] [0, 10, 11, 12, 26, 27, 28, 29, 30, 25, 32, 33, 13, 31] (by kernel_rfl) (by kernel_rfl) ⟨?_, ?_, ?_, trivial⟩ ⟨?_, trivial⟩ (fun h => by cases h)
   ·exact tf_op (d := 25) (.tuple #[.agg #[.slice au9 mB cu9, .int .i64 opB.lo, .int .i64 opB.hi, .bool opB.no], .int .i64 eB]) rfl rfl rfl (st_move (v := .tuple #[.agg #[.slice au9 mB cu9, .int .i64 opB.lo, .int .i64 opB.hi, .bool opB.no], .int .i64 eB]) rfl rfl ⟨rfl, rfl⟩) rfl
   ·exact tf_op (d := 32) (.agg #[.slice au9 mB cu9, .int .i64 opB.lo, .int .i64 opB.hi, .bool opB.no]) rfl rfl rfl (st_ex (v := .agg #[.slice au9 mB cu9, .int .i64 opB.lo, .int .i64 opB.hi, .bool opB.no]) rfl rfl rfl ⟨rfl, rfl⟩) rfl
   ·exact tf_op (d := 33) (.int .i64 eB) rfl rfl rfl (st_ex (v := .int .i64 eB) rfl rfl rfl ⟨rfl, rfl⟩) rfl
   ·refine opR_op (d := none) rfl rfl rfl (st_sta (cs := [.slice au9 mB cu9, .int .i64 opB.lo, .int .i64 opB.hi, .bool opB.no]) agg48 0 rfl rfl rfl rfl rfl rfl rfl rfl rfl ?_)
    exact ⟨_, _, _, _, st5_4 () _ _ _ _ _ _ _ _ _ Ru9, (List.Perm.refl _), by kernel_rfl, [0, 10, 11, 12, 26, 27, 28, 29, 30, 25, 32, 33, 13, 31], by kernel_rfl, ⟨rfl, rfl, rfl, rfl, rfl, rfl, rfl, rfl, rfl, rfl, rfl, rfl, rfl, rfl, trivial⟩, by kernel_rfl⟩
  have st5_2 : ∀ (_u : Unit) (b5_9 : Nat), Sg [9] [] ((((((((((E0.put (some 0) (.int .i64 back)).put (some 10) (.pointer (some ⟨g0, 0, none⟩))).put (some 11) (.slice (some ⟨gG, 0, none⟩) 2 cap)).put (some 12) (.pointer (some ⟨g1, 0, none⟩))).put (some 13) (.pointer (some ⟨b5_9, 0, none⟩))).put (some 26) (.agg #[.string nm, .int .i64 bk.c, .int .i64 bk.scale, .slice (some ⟨gF, 0, none⟩) F.length ca])).put (some 27) (.slice (some ⟨gG, 0, none⟩) 2 cap)).put (some 28) (.int .i64 back)).put (some 29) (.int .i64 (hPick back 3))).put (some 30) (.agg #[.int .i64 ((rLine (hPick back 3)).lo), .int .i64 ((rLine (hPick back 3)).hi), .bool ((rLine (hPick back 3)).no)])) ([⟨b5_9, [.slice none 0 0, .int .i64 0, .int .i64 0, .bool false], 48, false⟩, ⟨g1, [.string nm, .int .i64 bk.c, .int .i64 bk.scale, .slice (some ⟨gF, 0, none⟩) F.length ca], 108, false⟩, ⟨gF, (flatF F ++ rF), 127, false⟩, ⟨gG, (x0.cells ++ x1.cells ++ rest), 122, false⟩, ⟨g0, [.slice none 0 0, .int .i64 0, .int .i64 0, .bool false], 48, false⟩]) := by
   intro _u b5_9
   refine stepR [9] [] _ _ [0, 1, 2, 3, 4] [5] [6, 7, 8, 10, 11] [0, 10, 11, 12, 26, 27, 28, 29, 30, 13] (by kernel_rfl) (by kernel_rfl) ⟨?_, ?_, ?_, ?_, ?_, trivial⟩ ⟨?_, trivial⟩ (fun h => by cases h)
   ·exact tf_op (d := 26) (.agg #[.string nm, .int .i64 bk.c, .int .i64 bk.scale, .slice (some ⟨gF, 0, none⟩) F.length ca]) rfl rfl rfl (st_lda (vs := [.string nm, .int .i64 bk.c, .int .i64 bk.scale, .slice (some ⟨gF, 0, none⟩) F.length ca]) agg108 1 rfl rfl rfl rfl rfl rfl ⟨rfl, rfl⟩) rfl
   ·exact tf_op (d := 27) (.slice (some ⟨gG, 0, none⟩) 2 cap) rfl rfl rfl (st_move (v := .slice (some ⟨gG, 0, none⟩) 2 cap) rfl rfl ⟨rfl, rfl⟩) rfl
   ·exact tf_op (d := 28) (.int .i64 back) rfl rfl rfl (st_move (v := .int .i64 back) rfl rfl ⟨rfl, rfl⟩) rfl
   ·exact tf_op (d := 29) (.int .i64 (hPick back 3)) rfl rfl rfl (st_cf (c_hPick back 3 (by decide)) Try.func19 rfl (by decide) rfl rfl rfl ⟨rfl, rfl⟩) rfl
   ·exact tf_op (d := 30) (.agg #[.int .i64 ((rLine (hPick back 3)).lo), .int .i64 ((rLine (hPick back 3)).hi), .bool ((rLine (hPick back 3)).no)]) rfl rfl rfl (st_cf (c_rLine (hPick back 3)) Try.func78 rfl (by decide) rfl rfl rfl ⟨rfl, rfl⟩) rfl
   ·refine opR_op (d := (some 31)) rfl rfl rfl (st_own fun hnd => st_gvZ (vs := [.agg #[.string nm, .int .i64 bk.c, .int .i64 bk.scale, .slice (some ⟨gF, 0, none⟩) F.length ca], .slice (some ⟨gG, 0, none⟩) 2 cap, .agg #[.int .i64 ((rLine (hPick back 3)).lo), .int .i64 ((rLine (hPick back 3)).hi), .bool ((rLine (hPick back 3)).no)]]) (R := [⟨gF, (flatF F ++ rF), 127, true⟩, ⟨gG, (x0.cells ++ x1.cells ++ rest), 122, true⟩]) (c_build F nm bk gF ca gG cap _ _ rest x0 x1 rfl h0 h5 (fun j s hj => flatF_at F rF j s hj) hF (rLine (hPick back 3))) Try.func77 rfl (by decide) rfl rfl rfl (has_cons 2 _ rfl rfl rfl rfl (has_cons 3 _ rfl rfl rfl rfl has_nil)) (nodup_two 2 3 rfl rfl (by decide) hnd) (fun v H H' hp ⟨F', dn', S', H2, h1, h2, h3⟩ => ⟨F', dn', S', H2, h1, h2.trans hp, h3⟩) fun v9 Nu9 R9 => ?_)
    obtain ⟨SB, opB, mB, cu9, au9, xB, eB, rfl, Ru9⟩ := R9
    exact ⟨_, _, _, _, st5_3 () _ _ _ _ _ _ _ _ _ Ru9, (List.Perm.refl _), by kernel_rfl, [0, 10, 11, 12, 26, 27, 28, 29, 30, 13, 31], by kernel_rfl, ⟨rfl, rfl, rfl, rfl, rfl, rfl, rfl, rfl, rfl, rfl, rfl, trivial⟩, by kernel_rfl⟩
  have st5_1 : ∀ (_u : Unit) (SB : List Surf) (opB : Iv) (mB : Nat) (xB : List Value) (eB : Int) (au9 : Option Addr) (cu9 : Nat) (Nu9 : List Box), SurfRow SB mB cu9 au9 xB Nu9 → Sg [5] [0, 1, 2, 3, 4] (((((((((((((E0.put (some 0) (.int .i64 back)).put (some 10) (.pointer (some ⟨g0, 0, none⟩))).put (some 11) (.slice (some ⟨gG, 0, none⟩) 2 cap)).put (some 12) (.pointer (some ⟨g1, 0, none⟩))).put (some 25) (.tuple #[.agg #[.slice au9 mB cu9, .int .i64 opB.lo, .int .i64 opB.hi, .bool opB.no], .int .i64 eB])).put (some 26) (.agg #[.string nm, .int .i64 bk.c, .int .i64 bk.scale, .slice (some ⟨gF, 0, none⟩) F.length ca])).put (some 27) (.slice (some ⟨gG, 0, none⟩) 2 cap)).put (some 28) (.int .i64 back)).put (some 29) (.int .i64 (hPick back 3))).put (some 30) (.agg #[.int .i64 ((rLine (hPick back 3)).lo), .int .i64 ((rLine (hPick back 3)).hi), .bool ((rLine (hPick back 3)).no)])).put (some 31) (.tuple #[.agg #[.slice au9 mB cu9, .int .i64 opB.lo, .int .i64 opB.hi, .bool opB.no], .int .i64 eB])).put (some 32) (.agg #[.slice au9 mB cu9, .int .i64 opB.lo, .int .i64 opB.hi, .bool opB.no])).put (some 33) (.int .i64 eB)) ([⟨g1, [.string nm, .int .i64 bk.c, .int .i64 bk.scale, .slice (some ⟨gF, 0, none⟩) F.length ca], 108, false⟩, ⟨gF, (flatF F ++ rF), 127, false⟩, ⟨gG, (x0.cells ++ x1.cells ++ rest), 122, false⟩, ⟨g0, [.slice none 0 0, .int .i64 0, .int .i64 0, .bool false], 48, false⟩] ++ Nu9) := by
   intro _u SB opB mB xB eB au9 cu9 Nu9 Ru9
   refine stepR [5] [0, 1, 2, 3, 4] _ _ [6, 7, 8] [9] [10, 11] [0, 10, 11, 12, 26, 27, 28, 29, 30, 25, 32, 33, 31] (by kernel_rfl) (by kernel_rfl) ⟨?_, ?_, ?_, trivial⟩ ⟨?_, trivial⟩ (fun h => by cases h)
   ·exact tf_op (d := 25) (.tuple #[.agg #[.slice au9 mB cu9, .int .i64 opB.lo, .int .i64 opB.hi, .bool opB.no], .int .i64 eB]) rfl rfl rfl (st_move (v := .tuple #[.agg #[.slice au9 mB cu9, .int .i64 opB.lo, .int .i64 opB.hi, .bool opB.no], .int .i64 eB]) rfl rfl ⟨rfl, rfl⟩) rfl
   ·exact tf_op (d := 32) (.agg #[.slice au9 mB cu9, .int .i64 opB.lo, .int .i64 opB.hi, .bool opB.no]) rfl rfl rfl (st_ex (v := .agg #[.slice au9 mB cu9, .int .i64 opB.lo, .int .i64 opB.hi, .bool opB.no]) rfl rfl rfl ⟨rfl, rfl⟩) rfl
   ·exact tf_op (d := 33) (.int .i64 eB) rfl rfl rfl (st_ex (v := .int .i64 eB) rfl rfl rfl ⟨rfl, rfl⟩) rfl
   ·refine opR_op (d := (some 13)) rfl rfl rfl (st_new zero48 rfl fun b5_9 => ?_)
    exact ⟨_, _, _, _, st5_3 () _ _ _ _ _ _ _ _ _ Ru9, (List.Perm.refl _), by kernel_rfl, [0, 10, 11, 12, 26, 27, 28, 29, 30, 25, 32, 33, 31, 13], by kernel_rfl, ⟨rfl, rfl, rfl, rfl, rfl, rfl, rfl, rfl, rfl, rfl, rfl, rfl, rfl, rfl, trivial⟩, by kernel_rfl⟩
  refine stepR [] [] _ _ [0, 1, 2, 3, 4] [5, 9] [6, 7, 8, 10, 11] [0, 10, 11, 12, 26, 27, 28, 29, 30] (by kernel_rfl) (by kernel_rfl) ⟨?_, ?_, ?_, ?_, ?_, trivial⟩ ⟨?_, ?_, trivial⟩ (fun h => by cases h)
  ·exact tf_op (d := 26) (.agg #[.string nm, .int .i64 bk.c, .int .i64 bk.scale, .slice (some ⟨gF, 0, none⟩) F.length ca]) rfl rfl rfl (st_lda (vs := [.string nm, .int .i64 bk.c, .int .i64 bk.scale, .slice (some ⟨gF, 0, none⟩) F.length ca]) agg108 0 rfl rfl rfl rfl rfl rfl ⟨rfl, rfl⟩) rfl
  ·exact tf_op (d := 27) (.slice (some ⟨gG, 0, none⟩) 2 cap) rfl rfl rfl (st_move (v := .slice (some ⟨gG, 0, none⟩) 2 cap) rfl rfl ⟨rfl, rfl⟩) rfl
  ·exact tf_op (d := 28) (.int .i64 back) rfl rfl rfl (st_move (v := .int .i64 back) rfl rfl ⟨rfl, rfl⟩) rfl
  ·exact tf_op (d := 29) (.int .i64 (hPick back 3)) rfl rfl rfl (st_cf (c_hPick back 3 (by decide)) Try.func19 rfl (by decide) rfl rfl rfl ⟨rfl, rfl⟩) rfl
  ·exact tf_op (d := 30) (.agg #[.int .i64 ((rLine (hPick back 3)).lo), .int .i64 ((rLine (hPick back 3)).hi), .bool ((rLine (hPick back 3)).no)]) rfl rfl rfl (st_cf (c_rLine (hPick back 3)) Try.func78 rfl (by decide) rfl rfl rfl ⟨rfl, rfl⟩) rfl
  ·refine opR_op (d := (some 31)) rfl rfl rfl (st_own fun hnd => st_gvZ (vs := [.agg #[.string nm, .int .i64 bk.c, .int .i64 bk.scale, .slice (some ⟨gF, 0, none⟩) F.length ca], .slice (some ⟨gG, 0, none⟩) 2 cap, .agg #[.int .i64 ((rLine (hPick back 3)).lo), .int .i64 ((rLine (hPick back 3)).hi), .bool ((rLine (hPick back 3)).no)]]) (R := [⟨gF, (flatF F ++ rF), 127, true⟩, ⟨gG, (x0.cells ++ x1.cells ++ rest), 122, true⟩]) (c_build F nm bk gF ca gG cap _ _ rest x0 x1 rfl h0 h5 (fun j s hj => flatF_at F rF j s hj) hF (rLine (hPick back 3))) Try.func77 rfl (by decide) rfl rfl rfl (has_cons 1 _ rfl rfl rfl rfl (has_cons 2 _ rfl rfl rfl rfl has_nil)) (nodup_two 1 2 rfl rfl (by decide) hnd) (fun v H H' hp ⟨F', dn', S', H2, h1, h2, h3⟩ => ⟨F', dn', S', H2, h1, h2.trans hp, h3⟩) fun v9 Nu9 R9 => ?_)
   obtain ⟨SB, opB, mB, cu9, au9, xB, eB, rfl, Ru9⟩ := R9
   exact ⟨_, _, _, _, st5_1 () _ _ _ _ _ _ _ _ Ru9, (List.Perm.refl _), by kernel_rfl, [0, 10, 11, 12, 26, 27, 28, 29, 30, 31], by kernel_rfl, ⟨rfl, rfl, rfl, rfl, rfl, rfl, rfl, rfl, rfl, rfl, trivial⟩, by kernel_rfl⟩
  ·refine opR_op (d := (some 13)) rfl rfl rfl (st_new zero48 rfl fun b5_9 => ?_)
   exact ⟨_, _, _, _, st5_2 () _, (List.Perm.refl _), by kernel_rfl, [0, 10, 11, 12, 26, 27, 28, 29, 30, 13], by kernel_rfl, ⟨rfl, rfl, rfl, rfl, rfl, rfl, rfl, rfl, rfl, rfl, trivial⟩, by kernel_rfl⟩
 intro E b5_9 SB opB mB xB eB au9 cu9 Nu9 Ru9 q10 q13
 obtain ⟨E0, rfl⟩ : ∃ E0 : Env, E = ((E0.put (some 10) (.pointer (some ⟨g0, 0, none⟩))).put (some 13) (.pointer (some ⟨b5_9, 0, none⟩))) := ⟨E, by rw [put_self q10, put_self q13]⟩
 refine doneR _ _ (aQ (aL (aG 34 [.slice au9 mB cu9, .int .i64 opB.lo, .int .i64 opB.hi, .bool opB.no] agg48 0 rfl rfl rfl rfl rfl (aS [.slice au9 mB cu9, .int .i64 opB.lo, .int .i64 opB.hi, .bool opB.no] agg48 4 rfl rfl rfl rfl rfl rfl (aN (ac_ret ?_))))))
 exact fing_ret (N := Nu9) ⟨SB, opB, mB, cu9, au9, xB, rfl, Ru9⟩ (List.sublist_append_right ([⟨b5_9, [.slice au9 mB cu9, .int .i64 opB.lo, .int .i64 opB.hi, .bool opB.no], 48, false⟩, ⟨g1, [.string nm, .int .i64 bk.c, .int .i64 bk.scale, .slice (some ⟨gF, 0, none⟩) F.length ca], 108, false⟩, ⟨gF, (flatF F ++ rF), 127, false⟩, ⟨gG, (x0.cells ++ x1.cells ++ rest), 122, false⟩, ⟨g0, [.slice au9 mB cu9, .int .i64 opB.lo, .int .i64 opB.hi, .bool opB.no], 48, false⟩] : List Box) Nu9) (Row.free Ru9.2.2.2.1) (res_c (vs := [.slice au9 mB cu9, .int .i64 opB.lo, .int .i64 opB.hi, .bool opB.no]) agg48 4 rfl rfl rfl rfl rfl rfl)
end Go.Proofs.Ythngkopcadlciaa
namespace Go.Proofs.Ythngkopcadlciaa
open Go.RowKit
attribute [local irreducible] AC AR DWalk
def sagMirR (r2 : Iv) (s : Surf) : Bool := (bif decide (((sagOf (⟨s.stop, s.bent, (ivNeg s.curve), s.conic, (ivNeg s.a4), (ivNeg s.a6), s.at_, s.open2, s.ratio⟩ : Surf) r2).1) = (ivNeg ((sagOf s r2).1))) then (bif decide (((sagOf (⟨s.stop, s.bent, (ivNeg s.curve), s.conic, (ivNeg s.a4), (ivNeg s.a6), s.at_, s.open2, s.ratio⟩ : Surf) r2).2) = (ivNeg ((sagOf s r2).2))) then true else false) else false)
set_option maxRecDepth 100000 in
set_option maxHeartbeats 4000000 in
theorem c_sagMirR (gR : Nat) (r2 : Iv) (gS M cS k : Nat) (ra : List Value) (s : Surf) (hk : k < M) (hs : (ra.drop (0 + k * 23)).take 23 = surfC s) {Q : Exit → Env → List Box → Prop} {E : Env} {c : Code} {j : Nat} (hc : Try.f9.body.bind loopOf = some c)  (q8 : E 8 = .bool false) (q10 : E 10 = .pointer (some ⟨gR, 0, none⟩)) (q26 : E 26 = .slice (some ⟨gS, 0, none⟩) M cS) (q27 : E 27 = .int .i64 (M : Int)) (q28 : E 28 = .int .i64 (k : Int)) (HG : (sagMirR r2 s) = true) (K : ∀ E' : Env, E' 8 = .bool false → E' 10 = .pointer (some ⟨gR, 0, none⟩) → E' 26 = .slice (some ⟨gS, 0, none⟩) M cS → E' 27 = .int .i64 (M : Int) → E' 28 = .int .i64 (w64 ((k : Int) + 1)) → ARounds Try.prog 68 c Q j E' [⟨gR, [.int .i64 r2.lo, .int .i64 r2.hi, .bool r2.no], 26, false⟩, ⟨gS, ra, 41, false⟩]) : ARounds Try.prog 68 c Q (j + 1) E [⟨gR, [.int .i64 r2.lo, .int .i64 r2.hi, .bool r2.no], 26, false⟩, ⟨gS, ra, 41, false⟩] := by
 rw [show Try.f9.body.bind loopOf = some _ from rfl] at hc
 cases hc
 obtain ⟨E0, rfl⟩ : ∃ E0 : Env, E = (((((E0.put (some 8) (.bool false)).put (some 10) (.pointer (some ⟨gR, 0, none⟩))).put (some 26) (.slice (some ⟨gS, 0, none⟩) M cS)).put (some 27) (.int .i64 (M : Int))).put (some 28) (.int .i64 (k : Int))) := ⟨E, by rw [put_self q8, put_self q10, put_self q26, put_self q27, put_self q28]⟩
 refine ar_round (aQ (aL (aB 29 (.bool (decide ((k : Int) < (M : Int)))) rfl rfl rfl (bi_lss rfl) (aN (aQ (ac_then' (b := decide ((k : Int) < (M : Int))) (decide_eq_true (show ((k : Int) < (M : Int)) by omega)) rfl (ac_skip (aQ (ac_block (aQ (aL (ao 30 rfl rfl (st_sa (g := gS) (off := 0) (m := M) (c := cS) (s := 23) (i := k) rfl Try.underlying46 (by kernel_rfl) rfl rfl hk ?_)))))))))))))
 refine aG 31 [.bool s.stop, .bool s.bent, .int .i64 s.curve.lo, .int .i64 s.curve.hi, .bool s.curve.no, .int .i64 s.conic.lo, .int .i64 s.conic.hi, .bool s.conic.no, .int .i64 s.a4.lo, .int .i64 s.a4.hi, .bool s.a4.no, .int .i64 s.a6.lo, .int .i64 s.a6.hi, .bool s.a6.no, .int .i64 s.at_.lo, .int .i64 s.at_.hi, .bool s.at_.no, .int .i64 s.open2.lo, .int .i64 s.open2.hi, .bool s.open2.no, .int .i64 s.ratio.lo, .int .i64 s.ratio.hi, .bool s.ratio.no] agg41 1 rfl rfl rfl rfl hs (ao 12 rfl rfl (st_new zero41 rfl fun g0 => ?_))
 refine aS [.bool s.stop, .bool s.bent, .int .i64 s.curve.lo, .int .i64 s.curve.hi, .bool s.curve.no, .int .i64 s.conic.lo, .int .i64 s.conic.hi, .bool s.conic.no, .int .i64 s.a4.lo, .int .i64 s.a4.hi, .bool s.a4.no, .int .i64 s.a6.lo, .int .i64 s.a6.hi, .bool s.a6.no, .int .i64 s.at_.lo, .int .i64 s.at_.hi, .bool s.at_.no, .int .i64 s.open2.lo, .int .i64 s.open2.hi, .bool s.open2.no, .int .i64 s.ratio.lo, .int .i64 s.ratio.hi, .bool s.ratio.no] agg41 0 rfl rfl rfl rfl rfl rfl (aN (aQ (aL ?_)))
 refine aG 33 [.bool s.stop, .bool s.bent, .int .i64 s.curve.lo, .int .i64 s.curve.hi, .bool s.curve.no, .int .i64 s.conic.lo, .int .i64 s.conic.hi, .bool s.conic.no, .int .i64 s.a4.lo, .int .i64 s.a4.hi, .bool s.a4.no, .int .i64 s.a6.lo, .int .i64 s.a6.hi, .bool s.a6.no, .int .i64 s.at_.lo, .int .i64 s.at_.hi, .bool s.at_.no, .int .i64 s.open2.lo, .int .i64 s.open2.hi, .bool s.open2.no, .int .i64 s.ratio.lo, .int .i64 s.ratio.hi, .bool s.ratio.no] agg41 0 rfl rfl rfl rfl rfl (aG 34 [.int .i64 r2.lo, .int .i64 r2.hi, .bool r2.no] agg26 1 rfl rfl rfl rfl rfl (aC 35 (c_sagOf s r2) Try.func34 ⟨rfl, by decide⟩ rfl rfl ?_))
 refine aM 32 (.tuple #[.agg #[.int .i64 (((sagOf s r2).1).lo), .int .i64 (((sagOf s r2).1).hi), .bool (((sagOf s r2).1).no)], .agg #[.int .i64 (((sagOf s r2).2).lo), .int .i64 (((sagOf s r2).2).hi), .bool (((sagOf s r2).2).no)]]) rfl rfl (aX 36 (.agg #[.int .i64 (((sagOf s r2).1).lo), .int .i64 (((sagOf s r2).1).hi), .bool (((sagOf s r2).1).no)]) rfl rfl rfl (aX 37 (.agg #[.int .i64 (((sagOf s r2).2).lo), .int .i64 (((sagOf s r2).2).hi), .bool (((sagOf s r2).2).no)]) rfl rfl rfl (ao 13 rfl rfl (st_new zero26 rfl fun g1 => (ao 14 rfl rfl (st_new zero26 rfl fun g2 => ?_))))))
 refine aS [.int .i64 (((sagOf s r2).1).lo), .int .i64 (((sagOf s r2).1).hi), .bool (((sagOf s r2).1).no)] agg26 1 rfl rfl rfl rfl rfl rfl (aS [.int .i64 (((sagOf s r2).2).lo), .int .i64 (((sagOf s r2).2).hi), .bool (((sagOf s r2).2).no)] agg26 0 rfl rfl rfl rfl rfl rfl (aN (aQ (aL (aF 38 fa41_2 rfl rfl (aG 39 [.int .i64 s.curve.lo, .int .i64 s.curve.hi, .bool s.curve.no] agg26 2 rfl rfl rfl rfl rfl (aC 40 (c_ivNeg s.curve) Try.func39 ⟨rfl, by decide⟩ rfl rfl (aF 41 fa41_2 rfl rfl ?_))))))))
 refine aS [.bool s.stop, .bool s.bent, .int .i64 ((ivNeg s.curve).lo), .int .i64 ((ivNeg s.curve).hi), .bool ((ivNeg s.curve).no), .int .i64 s.conic.lo, .int .i64 s.conic.hi, .bool s.conic.no, .int .i64 s.a4.lo, .int .i64 s.a4.hi, .bool s.a4.no, .int .i64 s.a6.lo, .int .i64 s.a6.hi, .bool s.a6.no, .int .i64 s.at_.lo, .int .i64 s.at_.hi, .bool s.at_.no, .int .i64 s.open2.lo, .int .i64 s.open2.hi, .bool s.open2.no, .int .i64 s.ratio.lo, .int .i64 s.ratio.hi, .bool s.ratio.no] agg26 2 rfl rfl rfl rfl rfl rfl (aN (aQ (aL (aF 42 fa41_4 rfl rfl (aG 43 [.int .i64 s.a4.lo, .int .i64 s.a4.hi, .bool s.a4.no] agg26 2 rfl rfl rfl rfl rfl ?_)))))
 refine aC 44 (c_ivNeg s.a4) Try.func39 ⟨rfl, by decide⟩ rfl rfl (aF 45 fa41_4 rfl rfl (aS [.bool s.stop, .bool s.bent, .int .i64 ((ivNeg s.curve).lo), .int .i64 ((ivNeg s.curve).hi), .bool ((ivNeg s.curve).no), .int .i64 s.conic.lo, .int .i64 s.conic.hi, .bool s.conic.no, .int .i64 ((ivNeg s.a4).lo), .int .i64 ((ivNeg s.a4).hi), .bool ((ivNeg s.a4).no), .int .i64 s.a6.lo, .int .i64 s.a6.hi, .bool s.a6.no, .int .i64 s.at_.lo, .int .i64 s.at_.hi, .bool s.at_.no, .int .i64 s.open2.lo, .int .i64 s.open2.hi, .bool s.open2.no, .int .i64 s.ratio.lo, .int .i64 s.ratio.hi, .bool s.ratio.no] agg26 2 rfl rfl rfl rfl rfl rfl (aN (aQ (aL (aF 46 fa41_5 rfl rfl ?_))))))
 refine aG 47 [.int .i64 s.a6.lo, .int .i64 s.a6.hi, .bool s.a6.no] agg26 2 rfl rfl rfl rfl rfl (aC 48 (c_ivNeg s.a6) Try.func39 ⟨rfl, by decide⟩ rfl rfl (aF 49 fa41_5 rfl rfl ?_))
 refine aS [.bool s.stop, .bool s.bent, .int .i64 ((ivNeg s.curve).lo), .int .i64 ((ivNeg s.curve).hi), .bool ((ivNeg s.curve).no), .int .i64 s.conic.lo, .int .i64 s.conic.hi, .bool s.conic.no, .int .i64 ((ivNeg s.a4).lo), .int .i64 ((ivNeg s.a4).hi), .bool ((ivNeg s.a4).no), .int .i64 ((ivNeg s.a6).lo), .int .i64 ((ivNeg s.a6).hi), .bool ((ivNeg s.a6).no), .int .i64 s.at_.lo, .int .i64 s.at_.hi, .bool s.at_.no, .int .i64 s.open2.lo, .int .i64 s.open2.hi, .bool s.open2.no, .int .i64 s.ratio.lo, .int .i64 s.ratio.hi, .bool s.ratio.no] agg26 2 rfl rfl rfl rfl rfl rfl (aN (aQ (aL ?_)))
 refine aG 51 [.bool s.stop, .bool s.bent, .int .i64 ((ivNeg s.curve).lo), .int .i64 ((ivNeg s.curve).hi), .bool ((ivNeg s.curve).no), .int .i64 s.conic.lo, .int .i64 s.conic.hi, .bool s.conic.no, .int .i64 ((ivNeg s.a4).lo), .int .i64 ((ivNeg s.a4).hi), .bool ((ivNeg s.a4).no), .int .i64 ((ivNeg s.a6).lo), .int .i64 ((ivNeg s.a6).hi), .bool ((ivNeg s.a6).no), .int .i64 s.at_.lo, .int .i64 s.at_.hi, .bool s.at_.no, .int .i64 s.open2.lo, .int .i64 s.open2.hi, .bool s.open2.no, .int .i64 s.ratio.lo, .int .i64 s.ratio.hi, .bool s.ratio.no] agg41 2 rfl rfl rfl rfl rfl (aG 52 [.int .i64 r2.lo, .int .i64 r2.hi, .bool r2.no] agg26 3 rfl rfl rfl rfl rfl ?_)
 refine aC 53 (c_sagOf (⟨s.stop, s.bent, (ivNeg s.curve), s.conic, (ivNeg s.a4), (ivNeg s.a6), s.at_, s.open2, s.ratio⟩ : Surf) r2) Try.func34 ⟨rfl, by decide⟩ rfl rfl ?_
 refine aM 50 (.tuple #[.agg #[.int .i64 (((sagOf (⟨s.stop, s.bent, (ivNeg s.curve), s.conic, (ivNeg s.a4), (ivNeg s.a6), s.at_, s.open2, s.ratio⟩ : Surf) r2).1).lo), .int .i64 (((sagOf (⟨s.stop, s.bent, (ivNeg s.curve), s.conic, (ivNeg s.a4), (ivNeg s.a6), s.at_, s.open2, s.ratio⟩ : Surf) r2).1).hi), .bool (((sagOf (⟨s.stop, s.bent, (ivNeg s.curve), s.conic, (ivNeg s.a4), (ivNeg s.a6), s.at_, s.open2, s.ratio⟩ : Surf) r2).1).no)], .agg #[.int .i64 (((sagOf (⟨s.stop, s.bent, (ivNeg s.curve), s.conic, (ivNeg s.a4), (ivNeg s.a6), s.at_, s.open2, s.ratio⟩ : Surf) r2).2).lo), .int .i64 (((sagOf (⟨s.stop, s.bent, (ivNeg s.curve), s.conic, (ivNeg s.a4), (ivNeg s.a6), s.at_, s.open2, s.ratio⟩ : Surf) r2).2).hi), .bool (((sagOf (⟨s.stop, s.bent, (ivNeg s.curve), s.conic, (ivNeg s.a4), (ivNeg s.a6), s.at_, s.open2, s.ratio⟩ : Surf) r2).2).no)]]) rfl rfl ?_
 refine aX 54 (.agg #[.int .i64 (((sagOf (⟨s.stop, s.bent, (ivNeg s.curve), s.conic, (ivNeg s.a4), (ivNeg s.a6), s.at_, s.open2, s.ratio⟩ : Surf) r2).1).lo), .int .i64 (((sagOf (⟨s.stop, s.bent, (ivNeg s.curve), s.conic, (ivNeg s.a4), (ivNeg s.a6), s.at_, s.open2, s.ratio⟩ : Surf) r2).1).hi), .bool (((sagOf (⟨s.stop, s.bent, (ivNeg s.curve), s.conic, (ivNeg s.a4), (ivNeg s.a6), s.at_, s.open2, s.ratio⟩ : Surf) r2).1).no)]) rfl rfl rfl ?_
 refine aX 55 (.agg #[.int .i64 (((sagOf (⟨s.stop, s.bent, (ivNeg s.curve), s.conic, (ivNeg s.a4), (ivNeg s.a6), s.at_, s.open2, s.ratio⟩ : Surf) r2).2).lo), .int .i64 (((sagOf (⟨s.stop, s.bent, (ivNeg s.curve), s.conic, (ivNeg s.a4), (ivNeg s.a6), s.at_, s.open2, s.ratio⟩ : Surf) r2).2).hi), .bool (((sagOf (⟨s.stop, s.bent, (ivNeg s.curve), s.conic, (ivNeg s.a4), (ivNeg s.a6), s.at_, s.open2, s.ratio⟩ : Surf) r2).2).no)]) rfl rfl rfl (ao 15 rfl rfl (st_new zero26 rfl fun g3 => (ao 16 rfl rfl (st_new zero26 rfl fun g4 => ?_))))
 refine aS [.int .i64 (((sagOf (⟨s.stop, s.bent, (ivNeg s.curve), s.conic, (ivNeg s.a4), (ivNeg s.a6), s.at_, s.open2, s.ratio⟩ : Surf) r2).1).lo), .int .i64 (((sagOf (⟨s.stop, s.bent, (ivNeg s.curve), s.conic, (ivNeg s.a4), (ivNeg s.a6), s.at_, s.open2, s.ratio⟩ : Surf) r2).1).hi), .bool (((sagOf (⟨s.stop, s.bent, (ivNeg s.curve), s.conic, (ivNeg s.a4), (ivNeg s.a6), s.at_, s.open2, s.ratio⟩ : Surf) r2).1).no)] agg26 1 rfl rfl rfl rfl rfl rfl ?_
 refine aS [.int .i64 (((sagOf (⟨s.stop, s.bent, (ivNeg s.curve), s.conic, (ivNeg s.a4), (ivNeg s.a6), s.at_, s.open2, s.ratio⟩ : Surf) r2).2).lo), .int .i64 (((sagOf (⟨s.stop, s.bent, (ivNeg s.curve), s.conic, (ivNeg s.a4), (ivNeg s.a6), s.at_, s.open2, s.ratio⟩ : Surf) r2).2).hi), .bool (((sagOf (⟨s.stop, s.bent, (ivNeg s.curve), s.conic, (ivNeg s.a4), (ivNeg s.a6), s.at_, s.open2, s.ratio⟩ : Surf) r2).2).no)] agg26 0 rfl rfl rfl rfl rfl rfl (aN (aQ ?_))
 refine ac_draw0 (id := 11) [0, 1, 2, 3, 4, 5, 6, 7, 8, 9] [] _ (by kernel_rfl) follows rfl  ?_
 refine dw_op (d := (some 56)) (.agg #[.int .i64 (((sagOf (⟨s.stop, s.bent, (ivNeg s.curve), s.conic, (ivNeg s.a4), (ivNeg s.a6), s.at_, s.open2, s.ratio⟩ : Surf) r2).1).lo), .int .i64 (((sagOf (⟨s.stop, s.bent, (ivNeg s.curve), s.conic, (ivNeg s.a4), (ivNeg s.a6), s.at_, s.open2, s.ratio⟩ : Surf) r2).1).hi), .bool (((sagOf (⟨s.stop, s.bent, (ivNeg s.curve), s.conic, (ivNeg s.a4), (ivNeg s.a6), s.at_, s.open2, s.ratio⟩ : Surf) r2).1).no)]) rfl rfl rfl (st_lda (vs := [.int .i64 (((sagOf (⟨s.stop, s.bent, (ivNeg s.curve), s.conic, (ivNeg s.a4), (ivNeg s.a6), s.at_, s.open2, s.ratio⟩ : Surf) r2).1).lo), .int .i64 (((sagOf (⟨s.stop, s.bent, (ivNeg s.curve), s.conic, (ivNeg s.a4), (ivNeg s.a6), s.at_, s.open2, s.ratio⟩ : Surf) r2).1).hi), .bool (((sagOf (⟨s.stop, s.bent, (ivNeg s.curve), s.conic, (ivNeg s.a4), (ivNeg s.a6), s.at_, s.open2, s.ratio⟩ : Surf) r2).1).no)]) agg26 1 rfl rfl rfl rfl rfl rfl ⟨rfl, rfl⟩) ?_
 refine dw_op (d := (some 57)) (.agg #[.int .i64 (((sagOf s r2).1).lo), .int .i64 (((sagOf s r2).1).hi), .bool (((sagOf s r2).1).no)]) rfl rfl rfl (st_lda (vs := [.int .i64 (((sagOf s r2).1).lo), .int .i64 (((sagOf s r2).1).hi), .bool (((sagOf s r2).1).no)]) agg26 3 rfl rfl rfl rfl rfl rfl ⟨rfl, rfl⟩) (dw_op (d := (some 58)) (.agg #[.int .i64 ((ivNeg ((sagOf s r2).1)).lo), .int .i64 ((ivNeg ((sagOf s r2).1)).hi), .bool ((ivNeg ((sagOf s r2).1)).no)]) rfl rfl rfl (st_cf (c_ivNeg ((sagOf s r2).1)) Try.func39 rfl (by decide) rfl rfl rfl ⟨rfl, rfl⟩) ?_)
 refine dw_op (d := (some 59)) (.bool (!(decide (((sagOf (⟨s.stop, s.bent, (ivNeg s.curve), s.conic, (ivNeg s.a4), (ivNeg s.a6), s.at_, s.open2, s.ratio⟩ : Surf) r2).1) = (ivNeg ((sagOf s r2).1)))))) rfl rfl rfl (st_bi (r := .bool (!(decide (((sagOf (⟨s.stop, s.bent, (ivNeg s.curve), s.conic, (ivNeg s.a4), (ivNeg s.a6), s.at_, s.open2, s.ratio⟩ : Surf) r2).1) = (ivNeg ((sagOf s r2).1)))))) rfl rfl rfl (bneq_26 ((sagOf (⟨s.stop, s.bent, (ivNeg s.curve), s.conic, (ivNeg s.a4), (ivNeg s.a6), s.at_, s.open2, s.ratio⟩ : Surf) r2).1) (ivNeg ((sagOf s r2).1)) rfl) ⟨rfl, rfl⟩) ?_
 refine dw_op (d := (some 60)) (.bool (!(decide (((sagOf (⟨s.stop, s.bent, (ivNeg s.curve), s.conic, (ivNeg s.a4), (ivNeg s.a6), s.at_, s.open2, s.ratio⟩ : Surf) r2).1) = (ivNeg ((sagOf s r2).1)))))) rfl rfl rfl (st_move (v := .bool (!(decide (((sagOf (⟨s.stop, s.bent, (ivNeg s.curve), s.conic, (ivNeg s.a4), (ivNeg s.a6), s.at_, s.open2, s.ratio⟩ : Surf) r2).1) = (ivNeg ((sagOf s r2).1)))))) rfl rfl ⟨rfl, rfl⟩) ?_
 refine bool_split (decide (((sagOf (⟨s.stop, s.bent, (ivNeg s.curve), s.conic, (ivNeg s.a4), (ivNeg s.a6), s.at_, s.open2, s.ratio⟩ : Surf) r2).1) = (ivNeg ((sagOf s r2).1)))) (fun h1 => ?_) (fun h1 => nomatch (show false = true from (show (sagMirR r2 s) = _ from (eF h1 rfl)).symm.trans HG))
 refine dw_gd (d := (some 61)) (.agg #[.int .i64 (((sagOf (⟨s.stop, s.bent, (ivNeg s.curve), s.conic, (ivNeg s.a4), (ivNeg s.a6), s.at_, s.open2, s.ratio⟩ : Surf) r2).2).lo), .int .i64 (((sagOf (⟨s.stop, s.bent, (ivNeg s.curve), s.conic, (ivNeg s.a4), (ivNeg s.a6), s.at_, s.open2, s.ratio⟩ : Surf) r2).2).hi), .bool (((sagOf (⟨s.stop, s.bent, (ivNeg s.curve), s.conic, (ivNeg s.a4), (ivNeg s.a6), s.at_, s.open2, s.ratio⟩ : Surf) r2).2).no)]) rfl (by show ((!(decide (((sagOf (⟨s.stop, s.bent, (ivNeg s.curve), s.conic, (ivNeg s.a4), (ivNeg s.a6), s.at_, s.open2, s.ratio⟩ : Surf) r2).1) = (ivNeg ((sagOf s r2).1))))) == false) = true; rw [h1]; rfl) rfl (st_lda (vs := [.int .i64 (((sagOf (⟨s.stop, s.bent, (ivNeg s.curve), s.conic, (ivNeg s.a4), (ivNeg s.a6), s.at_, s.open2, s.ratio⟩ : Surf) r2).2).lo), .int .i64 (((sagOf (⟨s.stop, s.bent, (ivNeg s.curve), s.conic, (ivNeg s.a4), (ivNeg s.a6), s.at_, s.open2, s.ratio⟩ : Surf) r2).2).hi), .bool (((sagOf (⟨s.stop, s.bent, (ivNeg s.curve), s.conic, (ivNeg s.a4), (ivNeg s.a6), s.at_, s.open2, s.ratio⟩ : Surf) r2).2).no)]) agg26 0 rfl rfl rfl rfl rfl rfl ⟨rfl, rfl⟩) ?_
 refine dw_gd (d := (some 62)) (.agg #[.int .i64 (((sagOf s r2).2).lo), .int .i64 (((sagOf s r2).2).hi), .bool (((sagOf s r2).2).no)]) rfl (by show ((!(decide (((sagOf (⟨s.stop, s.bent, (ivNeg s.curve), s.conic, (ivNeg s.a4), (ivNeg s.a6), s.at_, s.open2, s.ratio⟩ : Surf) r2).1) = (ivNeg ((sagOf s r2).1))))) == false) = true; rw [h1]; rfl) rfl (st_lda (vs := [.int .i64 (((sagOf s r2).2).lo), .int .i64 (((sagOf s r2).2).hi), .bool (((sagOf s r2).2).no)]) agg26 2 rfl rfl rfl rfl rfl rfl ⟨rfl, rfl⟩) ?_
 refine dw_gd (d := (some 63)) (.agg #[.int .i64 ((ivNeg ((sagOf s r2).2)).lo), .int .i64 ((ivNeg ((sagOf s r2).2)).hi), .bool ((ivNeg ((sagOf s r2).2)).no)]) rfl (by show ((!(decide (((sagOf (⟨s.stop, s.bent, (ivNeg s.curve), s.conic, (ivNeg s.a4), (ivNeg s.a6), s.at_, s.open2, s.ratio⟩ : Surf) r2).1) = (ivNeg ((sagOf s r2).1))))) == false) = true; rw [h1]; rfl) rfl (st_cf (c_ivNeg ((sagOf s r2).2)) Try.func39 rfl (by decide) rfl rfl rfl ⟨rfl, rfl⟩) ?_
 refine dw_gd (d := (some 64)) (.bool (!(decide (((sagOf (⟨s.stop, s.bent, (ivNeg s.curve), s.conic, (ivNeg s.a4), (ivNeg s.a6), s.at_, s.open2, s.ratio⟩ : Surf) r2).2) = (ivNeg ((sagOf s r2).2)))))) rfl (by show ((!(decide (((sagOf (⟨s.stop, s.bent, (ivNeg s.curve), s.conic, (ivNeg s.a4), (ivNeg s.a6), s.at_, s.open2, s.ratio⟩ : Surf) r2).1) = (ivNeg ((sagOf s r2).1))))) == false) = true; rw [h1]; rfl) rfl (st_bi (r := .bool (!(decide (((sagOf (⟨s.stop, s.bent, (ivNeg s.curve), s.conic, (ivNeg s.a4), (ivNeg s.a6), s.at_, s.open2, s.ratio⟩ : Surf) r2).2) = (ivNeg ((sagOf s r2).2)))))) rfl rfl rfl (bneq_26 ((sagOf (⟨s.stop, s.bent, (ivNeg s.curve), s.conic, (ivNeg s.a4), (ivNeg s.a6), s.at_, s.open2, s.ratio⟩ : Surf) r2).2) (ivNeg ((sagOf s r2).2)) rfl) ⟨rfl, rfl⟩) ?_
 refine dw_op (d := (some 65)) (.bool (!(decide (((sagOf (⟨s.stop, s.bent, (ivNeg s.curve), s.conic, (ivNeg s.a4), (ivNeg s.a6), s.at_, s.open2, s.ratio⟩ : Surf) r2).2) = (ivNeg ((sagOf s r2).2)))))) rfl rfl rfl (st_pkf' (b := !(decide (((sagOf (⟨s.stop, s.bent, (ivNeg s.curve), s.conic, (ivNeg s.a4), (ivNeg s.a6), s.at_, s.open2, s.ratio⟩ : Surf) r2).1) = (ivNeg ((sagOf s r2).1))))) (v := .bool (!(decide (((sagOf (⟨s.stop, s.bent, (ivNeg s.curve), s.conic, (ivNeg s.a4), (ivNeg s.a6), s.at_, s.open2, s.ratio⟩ : Surf) r2).2) = (ivNeg ((sagOf s r2).2)))))) (by rw [h1]; rfl) rfl rfl rfl ⟨rfl, rfl⟩) (dw_nil (aN ?_))
 refine bool_split (decide (((sagOf (⟨s.stop, s.bent, (ivNeg s.curve), s.conic, (ivNeg s.a4), (ivNeg s.a6), s.at_, s.open2, s.ratio⟩ : Surf) r2).2) = (ivNeg ((sagOf s r2).2)))) (fun h2 => ?_) (fun h2 => nomatch (show false = true from (show (sagMirR r2 s) = _ from (eT h1 (eF h2 rfl))).symm.trans HG))
 refine ac_else' (b := !(decide (((sagOf (⟨s.stop, s.bent, (ivNeg s.curve), s.conic, (ivNeg s.a4), (ivNeg s.a6), s.at_, s.open2, s.ratio⟩ : Surf) r2).2) = (ivNeg ((sagOf s r2).2))))) (by rw [h2]; rfl) rfl (ac_skip (aL (aB 66 (.int .i64 (w64 ((k : Int) + 1))) rfl rfl rfl (bi_add rfl) (aM 28 (.int .i64 (w64 ((k : Int) + 1))) rfl rfl (aN ?_)))))
 exact ar_dropR (List.Sublist.cons _ (List.Sublist.cons _ (List.Sublist.cons _ (List.Sublist.cons _ (List.Sublist.cons _ (List.Sublist.refl _)))))) (K _ rfl rfl rfl rfl rfl)
set_option maxRecDepth 100000 in
theorem sagMirR_leave (gR : Nat) (r2 : Iv) (M cS : Nat) (aa : Option Addr) (NA : List Box) {Q : Exit → Env → List Box → Prop} {E : Env} {c : Code} {j : Nat} (hc : Try.f9.body.bind loopOf = some c) (q8 : E 8 = .bool false) (q10 : E 10 = .pointer (some ⟨gR, 0, none⟩)) (q26 : E 26 = .slice aa M cS) (q27 : E 27 = .int .i64 (M : Int)) (q28 : E 28 = .int .i64 (M : Int)) (K : ∀ E' : Env, Q (.exit 0) E' ([⟨gR, [.int .i64 r2.lo, .int .i64 r2.hi, .bool r2.no], 26, false⟩] ++ NA)) : ARounds Try.prog 68 c Q (j + 1) E ([⟨gR, [.int .i64 r2.lo, .int .i64 r2.hi, .bool r2.no], 26, false⟩] ++ NA) := by
 rw [show Try.f9.body.bind loopOf = some _ from rfl] at hc
 cases hc
 obtain ⟨E0, rfl⟩ : ∃ E0 : Env, E = (((((E0.put (some 8) (.bool false)).put (some 10) (.pointer (some ⟨gR, 0, none⟩))).put (some 26) (.slice aa M cS)).put (some 27) (.int .i64 (M : Int))).put (some 28) (.int .i64 (M : Int))) := ⟨E, by rw [put_self q8, put_self q10, put_self q26, put_self q27, put_self q28]⟩
 refine ar_round (aQ (aL (aB 29 (.bool (decide ((M : Int) < (M : Int)))) rfl rfl rfl (bi_lss rfl) (aN (aQ (ac_else' (b := decide ((M : Int) < (M : Int))) (decide_eq_false (show ¬ ((M : Int) < (M : Int)) by omega)) rfl (ac_exit ?_)))))))
 exact K _
theorem sagMirR_loop (gR : Nat) (r2 : Iv) (gS M cS : Nat) (ra : List Value) {Q : Exit → Env → List Box → Prop} {c : Code} (hc : Try.f9.body.bind loopOf = some c) (hM : M ≤ 1000000) (K : ∀ E' : Env, Q (.exit 0) E' [⟨gR, [.int .i64 r2.lo, .int .i64 r2.hi, .bool r2.no], 26, false⟩, ⟨gS, ra, 41, false⟩]) :
  ∀ (l : List Surf) (k : Nat) (E : Env), k + l.length = M → (∀ j s, l[j]? = some s → (ra.drop (0 + (k + j) * 23)).take 23 = surfC s) → l.all (sagMirR r2) = true → E 8 = .bool false → E 10 = .pointer (some ⟨gR, 0, none⟩) → E 26 = .slice (some ⟨gS, 0, none⟩) M cS → E 27 = .int .i64 (M : Int) → E 28 = .int .i64 (k : Int) → ARounds Try.prog 68 c Q (l.length + 1) E [⟨gR, [.int .i64 r2.lo, .int .i64 r2.hi, .bool r2.no], 26, false⟩, ⟨gS, ra, 41, false⟩] := by
 intro l
 induction l with
 | nil =>
  intro k E hk hra hall q8 q10 q26 q27 q28
  obtain rfl : k = M := by simpa using hk
  exact sagMirR_leave gR r2 k cS (some ⟨gS, 0, none⟩) [⟨gS, ra, 41, false⟩] hc q8 q10 q26 q27 q28 K
 | cons s l ih =>
  intro k E hk hra hall q8 q10 q26 q27 q28
  simp only [List.all_cons, Bool.and_eq_true] at hall
  have hkM : k < M := by simp only [List.length_cons] at hk; omega
  refine c_sagMirR gR r2 gS M cS k ra s hkM (by have := hra 0 s rfl; simpa using this) hc q8 q10 q26 q27 q28 hall.1 ?_
  intro E' f8 f10 f26 f27 f28
  exact ih (k + 1) E' (by simp only [List.length_cons] at hk; omega) (fun j s hj => by have := hra (j + 1) s (by simpa using hj); rw [show k + 1 + j = k + (j + 1) from by omega]; exact this) hall.2 f8 f10 f26 f27 (by rw [f28, w64_id (by omega)]; rfl)
theorem sagMirR_rows (gR : Nat) (r2 : Iv) (M cS : Nat) (aa : Option Addr) (NA : List Box) (S : List Surf) (xs : List Value) {Q : Exit → Env → List Box → Prop} {c : Code} (hc : Try.f9.body.bind loopOf = some c) (K : ∀ E' : Env, Q (.exit 0) E' ([⟨gR, [.int .i64 r2.lo, .int .i64 r2.hi, .bool r2.no], 26, false⟩] ++ NA)) (E : Env) (hS : SurfRow S M cS aa xs NA) (hall : S.all (sagMirR r2) = true) : E 8 = .bool false → E 10 = .pointer (some ⟨gR, 0, none⟩) → E 26 = .slice aa M cS → E 27 = .int .i64 (M : Int) → E 28 = .int .i64 0 → ARounds Try.prog 68 c Q (S.length + 1) E ([⟨gR, [.int .i64 r2.lo, .int .i64 r2.hi, .bool r2.no], 26, false⟩] ++ NA) := by
 intro q8 q10 q26 q27 q28
 obtain ⟨hm, hxs, h5, hR, _⟩ := hS
 rcases hR with ⟨rfl, _, hv, rfl⟩ | ⟨g, cap, rest, hv, rfl, _⟩
 ·exact sagMirR_leave gR r2 0 cS aa [] hc q8 q10 q26 q27 q28 K
 ·simp only [Value.slice.injEq] at hv
  obtain ⟨rfl, _, rfl⟩ := hv
  subst hm
  exact sagMirR_loop gR r2 g S.length cS (xs ++ rest) hc (by omega) K S 0 E (Nat.zero_add _) (fun j s hj => by rw [Nat.zero_add j, hxs]; exact flatU_at S rest j s hj) hall q8 q10 q26 q27 q28
set_option maxRecDepth 100000 in
set_option maxHeartbeats 4000000 in
theorem c_lawSagMirrors (back : Int) (a_ : Int) (b_ : Int) (l : List RawFace) (gl off ty cl : Nat) (cs : List Value) (hra : ∀ j s, l[j]? = some s → (cs.drop (off + j * 6)).take 6 = RawFace.cells s) (hk : known14 = true) (hall0 : ∀ S : List Surf, (∀ s ∈ S, SurfOk s) → S.all (sagMirR (hWide (hPick a_ 7864320) (hPick b_ 9000))) = true) : Gives Try.prog 9 #[.int .i64 back, .slice (some ⟨gl, off, none⟩) l.length cl, .int .i64 a_, .int .i64 b_] [⟨gl, cs, ty, true⟩] (fun u N => u = .bool true ∧ N = []) := by
 refine gives_fin Try.func9 rfl rfl rfl rfl (aQ (aL (aA 8 (.bool false) rfl rfl (aN (aQ (aL (aM 17 (.int .i64 back) rfl rfl (aM 18 (.slice (some ⟨gl, off, none⟩) l.length cl) rfl rfl (ao 19 rfl rfl (st_gvZ (vs := [.int .i64 back, .slice (some ⟨gl, off, none⟩) l.length cl, .slice none 0 0, .int .i64 4, .bool false]) (R := [⟨gl, cs, ty, true⟩]) (c_system back l gl off ty cl cs hra) Try.func36 rfl (by decide) rfl rfl rfl (has_cons 0 _ rfl rfl rfl rfl has_nil) (by simp) (fun v H H' hp h => ar_perm hp h) fun v9 Nu9 R9 => ?_))))))))))
 obtain ⟨SB, opB, mB, cu9, au9, xB, rfl, Ru9⟩ := R9
 refine ao 9 rfl rfl (st_new zero48 rfl fun g0 => (aS [.slice au9 mB cu9, .int .i64 opB.lo, .int .i64 opB.hi, .bool opB.no] agg48 0 rfl rfl rfl rfl rfl rfl (aN (aQ (aL (aM 20 (.int .i64 a_) rfl rfl (aC 21 (c_hPick a_ 7864320 (by decide)) Try.func19 ⟨rfl, by decide⟩ rfl rfl (aM 22 (.int .i64 b_) rfl rfl (aC 23 (c_hPick b_ 9000 (by decide)) Try.func19 ⟨rfl, by decide⟩ rfl rfl (aC 24 (c_hWide (hPick a_ 7864320) (hPick b_ 9000)) Try.func20 ⟨rfl, by decide⟩ rfl rfl (ao 10 rfl rfl (st_new zero26 rfl fun g1 => ?_))))))))))))
 refine aS [.int .i64 ((hWide (hPick a_ 7864320) (hPick b_ 9000)).lo), .int .i64 ((hWide (hPick a_ 7864320) (hPick b_ 9000)).hi), .bool ((hWide (hPick a_ 7864320) (hPick b_ 9000)).no)] agg26 0 rfl rfl rfl rfl rfl rfl (aN (aQ (aQ (aL (aF 25 fa48_0 rfl rfl (aD 26 (.slice au9 mB cu9) cell46 1 rfl rfl rfl rfl (ao 27 rfl rfl (st_ln (a := au9) (m := mB) (c := cu9) rfl Try.underlying46 rfl (aM 28 (.int .i64 0) rfl rfl (aN (ac_block ?_)))))))))))
 refine ac_drop (H := [⟨g1, [.int .i64 ((hWide (hPick a_ 7864320) (hPick b_ 9000)).lo), .int .i64 ((hWide (hPick a_ 7864320) (hPick b_ 9000)).hi), .bool ((hWide (hPick a_ 7864320) (hPick b_ 9000)).no)], 26, false⟩] ++ Nu9) (List.Sublist.cons_cons _ (List.Sublist.cons _ (List.Sublist.cons _ (List.Sublist.refl _)))) ?_
 refine ac_rounds (SB.length + 1) ?_
 refine sagMirR_rows g1 (hWide (hPick a_ 7864320) (hPick b_ 9000)) mB cu9 au9 Nu9 SB xB rfl ?_ _ Ru9 (hall0 SB Ru9.2.2.2.2) rfl rfl rfl rfl rfl
 intro E'
 refine aQ (aL (aC 67 c_known14 Try.func35 ⟨rfl, by decide⟩ rfl rfl (aA 8 (.bool known14) rfl rfl (aN (ac_ret ?_)))))
 exact fing_v (fin_ret (res_tmp rfl rfl)) (congrArg Value.bool hk)
set_option maxRecDepth 100000 in
set_option maxHeartbeats 4000000 in
theorem c_lawSagMirrors0 (back : Int) (a_ : Int) (b_ : Int) (a : Option Addr) (cl : Nat) (hk : known14 = true) (hall0 : ∀ S : List Surf, (∀ s ∈ S, SurfOk s) → S.all (sagMirR (hWide (hPick a_ 7864320) (hPick b_ 9000))) = true) : Gives Try.prog 9 #[.int .i64 back, .slice a 0 cl, .int .i64 a_, .int .i64 b_] [] (fun u N => u = .bool true ∧ N = []) := by
 refine gives_fin Try.func9 rfl rfl rfl rfl (aQ (aL (aA 8 (.bool false) rfl rfl (aN (aQ (aL (aM 17 (.int .i64 back) rfl rfl (aM 18 (.slice a 0 cl) rfl rfl (ao 19 rfl rfl (st_gvZ (vs := [.int .i64 back, .slice a 0 cl, .slice none 0 0, .int .i64 4, .bool false]) (R := []) (c_system0 back a cl) Try.func36 rfl (by decide) rfl rfl rfl has_nil (by simp) (fun v H H' hp h => ar_perm hp h) fun v9 Nu9 R9 => ?_))))))))))
 obtain ⟨SB, opB, mB, cu9, au9, xB, rfl, Ru9⟩ := R9
 refine ao 9 rfl rfl (st_new zero48 rfl fun g0 => (aS [.slice au9 mB cu9, .int .i64 opB.lo, .int .i64 opB.hi, .bool opB.no] agg48 0 rfl rfl rfl rfl rfl rfl (aN (aQ (aL (aM 20 (.int .i64 a_) rfl rfl (aC 21 (c_hPick a_ 7864320 (by decide)) Try.func19 ⟨rfl, by decide⟩ rfl rfl (aM 22 (.int .i64 b_) rfl rfl (aC 23 (c_hPick b_ 9000 (by decide)) Try.func19 ⟨rfl, by decide⟩ rfl rfl (aC 24 (c_hWide (hPick a_ 7864320) (hPick b_ 9000)) Try.func20 ⟨rfl, by decide⟩ rfl rfl (ao 10 rfl rfl (st_new zero26 rfl fun g1 => ?_))))))))))))
 refine aS [.int .i64 ((hWide (hPick a_ 7864320) (hPick b_ 9000)).lo), .int .i64 ((hWide (hPick a_ 7864320) (hPick b_ 9000)).hi), .bool ((hWide (hPick a_ 7864320) (hPick b_ 9000)).no)] agg26 0 rfl rfl rfl rfl rfl rfl (aN (aQ (aQ (aL (aF 25 fa48_0 rfl rfl (aD 26 (.slice au9 mB cu9) cell46 1 rfl rfl rfl rfl (ao 27 rfl rfl (st_ln (a := au9) (m := mB) (c := cu9) rfl Try.underlying46 rfl (aM 28 (.int .i64 0) rfl rfl (aN (ac_block ?_)))))))))))
 refine ac_drop (H := [⟨g1, [.int .i64 ((hWide (hPick a_ 7864320) (hPick b_ 9000)).lo), .int .i64 ((hWide (hPick a_ 7864320) (hPick b_ 9000)).hi), .bool ((hWide (hPick a_ 7864320) (hPick b_ 9000)).no)], 26, false⟩] ++ Nu9) (List.Sublist.cons_cons _ (List.Sublist.cons _ (List.Sublist.refl _))) ?_
 refine ac_rounds (SB.length + 1) ?_
 refine sagMirR_rows g1 (hWide (hPick a_ 7864320) (hPick b_ 9000)) mB cu9 au9 Nu9 SB xB rfl ?_ _ Ru9 (hall0 SB Ru9.2.2.2.2) rfl rfl rfl rfl rfl
 intro E'
 refine aQ (aL (aC 67 c_known14 Try.func35 ⟨rfl, by decide⟩ rfl rfl (aA 8 (.bool known14) rfl rfl (aN (ac_ret ?_)))))
 exact fing_v (fin_ret (res_tmp rfl rfl)) (congrArg Value.bool hk)
end Go.Proofs.Ythngkopcadlciaa
namespace Go.Proofs.Ythngkopcadlciaa
theorem sagMirR_true (r2 : Iv) (s : Surf) : sagMirR r2 s = true := by
  have h := sag_mir s r2
  unfold mirS at h
  unfold sagMirR
  rw [h, decide_eq_true rfl, decide_eq_true rfl]
  rfl
end Go.Proofs.Ythngkopcadlciaa
namespace Go.Proofs.Ythngkopcadlciaa
open Go.ChangeShapes Go.WideShapes Go.ChangeAt Go.RowKit
theorem heap_of_cell {w : World} {b o : Nat} {v : Value} (h : w.cell? ⟨b, o, none⟩ = some v) : ∃ (cs : List Value) (ty : TypeId) (fr : Nat × Nat), w.heap[b]? = some (.cells cs.toArray ty fr) ∧ cs[o]? = some v := by
  unfold World.cell? at h
  cases hb : w.heap[b]? with
  | none => simp [hb] at h
  | some x =>
    cases x <;> simp [hb] at h
    case cells c t fr => exact ⟨c.toList, t, fr, by simp, by simpa using h⟩
end Go.Proofs.Ythngkopcadlciaa
namespace Go.Proofs.Ythngkopcadlciaa
open Go.ChangeShapes Go.WideShapes Go.ChangeAt Go.RowKit Go.Deep
def Raws (W : World) (a : Option Addr) (len : Nat) : Prop := len = 0 ∨ ∃ b off, a = some ⟨b, off, none⟩ ∧ ∃ (cs : List Value) (ty : TypeId) (fr : Nat × Nat), W.heap[b]? = some (.cells cs.toArray ty fr) ∧ ∃ zs : Nat → RawFace, ∀ j, j < len → (cs.drop (off + j * 6)).take 6 = (zs j).cells
section
variable {H : Type} {enc : TypeId × Value → H} {base : Nat} {held : Bool}
theorem rf_cells : Try.prog.cellsOf 125 = 6 := by kernel_rfl
theorem rf_int : Try.prog.cellsOf 3 = 1 := by kernel_rfl
set_option maxRecDepth 100000 in
theorem rf_down {w : World} {spare : Nat → Bool} {n : Nat} {cs : List Value} {x : DataW H × List MemPlace} (hf : DataW.trod enc Try.prog w base spare held n 125 cs = some x) :
    ∃ l : RawFace, cs = l.cells ∧ x = (.agg [.lit (.int .i64 l.kind), .lit (.int .i64 l.r), .lit (.int .i64 l.a), .lit (.int .i64 l.t), .lit (.int .i64 l.g), .lit (.int .i64 l.k)], []) ∧
      (Lit.int .i64 l.kind).wf = true ∧ (Lit.int .i64 l.r).wf = true ∧ (Lit.int .i64 l.a).wf = true ∧ (Lit.int .i64 l.t).wf = true ∧ (Lit.int .i64 l.g).wf = true ∧ (Lit.int .i64 l.k).wf = true := by
  obtain ⟨xs, m, _, hx, hcl, hlen, hg⟩ := DataW.trod_struct Try.underlying125 hf
  match cs, hcl.trans rf_cells with
  | [c0, c1, c2, c3, c4, c5], _ =>
    match xs, hlen with
    | [y0, y1, y2, y3, y4, y5], _ =>
      have k : ∀ (c : Value) (y : DataW H × List MemPlace), DataW.trod enc Try.prog w base spare held m 3 [c] = some y → ∃ n, c = .int .i64 n ∧ y = (.lit (.int .i64 n), []) ∧ (Lit.int .i64 n).wf = true := by
        intro c y hy
        obtain ⟨n, h1, h2, h3⟩ := DataW.trod_int Try.underlying3 hy
        simp at h1
        exact ⟨n, h1, h2, h3⟩
      obtain ⟨n0, rfl, rfl, w0⟩ := k c0 y0 (by simpa [Value.cells, rf_int] using hg 0 _ rfl)
      obtain ⟨n1, rfl, rfl, w1⟩ := k c1 y1 (by simpa [Value.cells, rf_int] using hg 1 _ rfl)
      obtain ⟨n2, rfl, rfl, w2⟩ := k c2 y2 (by simpa [Value.cells, rf_int] using hg 2 _ rfl)
      obtain ⟨n3, rfl, rfl, w3⟩ := k c3 y3 (by simpa [Value.cells, rf_int] using hg 3 _ rfl)
      obtain ⟨n4, rfl, rfl, w4⟩ := k c4 y4 (by simpa [Value.cells, rf_int] using hg 4 _ rfl)
      obtain ⟨n5, rfl, rfl, w5⟩ := k c5 y5 (by simpa [Value.cells, rf_int] using hg 5 _ rfl)
      exact ⟨⟨n0, n1, n2, n3, n4, n5⟩, rfl, by rw [hx]; rfl, w0, w1, w2, w3, w4, w5⟩
set_option maxRecDepth 100000 in
theorem rf_up {w : World} {spare : Nat → Bool} (l : RawFace) (w0 : (Lit.int .i64 l.kind).wf = true) (w1 : (Lit.int .i64 l.r).wf = true) (w2 : (Lit.int .i64 l.a).wf = true) (w3 : (Lit.int .i64 l.t).wf = true) (w4 : (Lit.int .i64 l.g).wf = true) (w5 : (Lit.int .i64 l.k).wf = true) :
    DataW.trod enc Try.prog w base spare held 2 125 l.cells = some (.agg [.lit (.int .i64 l.kind), .lit (.int .i64 l.r), .lit (.int .i64 l.a), .lit (.int .i64 l.t), .lit (.int .i64 l.g), .lit (.int .i64 l.k)], []) := by
  simp [DataW.trod, RawFace.cells, Try.underlying125, Try.underlying3, rf_int, rf_cells, w0, w1, w2, w3, w4, w5]
set_option maxRecDepth 100000 in
theorem open_rf {W : World} {b0 : Nat} {r : Reach} {v : Value} {d : DataW H} {ps : List MemPlace}
    (hval : Value.okWide Try.prog W r b0 45 v) (h : DataW.Trod enc Try.prog W base (fun _ => true) held 45 v d ps) :
    ∃ a len cap, v = .slice a len cap ∧ Raws W a len ∧ ∀ W', Below W.heap.size W W' → DataW.Trod enc Try.prog W' base (fun b => decide (b < W.heap.size)) held 45 v d ps := by
  obtain ⟨a0, len, cap, rfl⟩ := okWide_slice Try.underlying45 hval
  obtain ⟨fuel, hf⟩ := h
  refine ⟨a0, len, cap, rfl, ?_⟩
  rcases open_slice Try.underlying45 hf with ⟨hcs, hx⟩ | ⟨a, len', cap', m, n, D, Pl, hcs, hb, hl, hm, hmm, hx, hel⟩
  · simp [Value.cells] at hcs
    obtain ⟨rfl, rfl, rfl⟩ := hcs
    simp only [Prod.mk.injEq] at hx
    obtain ⟨rfl, rfl⟩ := hx
    exact ⟨.inl rfl, fun W' _ => shut_slice_nil Try.underlying45⟩
  · simp [Value.cells] at hcs
    obtain ⟨rfl, rfl, rfl⟩ := hcs
    simp only [Prod.mk.injEq] at hx
    obtain ⟨rfl, rfl⟩ := hx
    simp only [if_true] at hmm
    replace hmm := hmm.symm
    subst hmm
    rw [rf_cells] at hel
    refine ⟨?_, fun W' bel => ?_⟩
    · by_cases h0 : len = 0
      · exact .inl h0
      · right
        obtain ⟨b, off, spot⟩ := a
        have hspot : spot = none := by
          obtain ⟨cs', hc, ht⟩ := hel 0 (by omega)
          obtain ⟨l, rfl, _⟩ := rf_down ht
          have := (World.cells?_some hc).2.2 0 (by decide)
          have h2 : W.cell? (((⟨b, off, spot⟩ : Addr).add (0 * 6)).add 0) = some (.int .i64 l.kind) := this
          simpa [Addr.add] using World.cell?_spot h2
        subst hspot
        have key : ∀ j, j < len → ∃ l : RawFace, ∀ (i : Nat) (u : Value), l.cells[i]? = some u → W.cell? ⟨b, off + j * 6 + i, none⟩ = some u := by
          intro j hj
          obtain ⟨cs', hc, ht⟩ := hel j (by omega)
          obtain ⟨l, rfl, _⟩ := rf_down ht
          refine ⟨l, fun i u hi => ?_⟩
          have hlt : i < 6 := (List.getElem?_eq_some_iff.1 hi).1
          have := (World.cells?_some hc).2.2 i hlt
          rw [← hi, ← this, Go.WideShapes.add_plain, Go.WideShapes.add_plain]
        obtain ⟨zs, hzs⟩ : ∃ zs : Nat → RawFace, ∀ j, j < len → ∀ (i : Nat) (u : Value), (zs j).cells[i]? = some u → W.cell? ⟨b, off + j * 6 + i, none⟩ = some u := by
          classical
          exact ⟨fun j => if hj : j < len then Classical.choose (key j hj) else ⟨0, 0, 0, 0, 0, 0⟩, fun j hj => by
            simp only [dif_pos hj]
            exact Classical.choose_spec (key j hj)⟩
        obtain ⟨cs, ty, fr, hh, _⟩ := heap_of_cell (hzs 0 (by omega) 0 _ rfl)
        refine ⟨b, off, rfl, cs, ty, fr, hh, zs, fun j hj => ?_⟩
        have hc : ∀ (i : Nat) (u : Value), (zs j).cells[i]? = some u → cs[off + j * 6 + i]? = some u := by
          intro i u hi
          obtain ⟨cs', ty', fr', hh', hv⟩ := heap_of_cell (hzs j hj i u hi)
          rw [hh] at hh'
          simp only [Option.some.injEq, Obj.cells.injEq] at hh'
          have : cs = cs' := by
            have := congrArg Array.toList hh'.1
            simpa using this
          rw [this]
          exact hv
        apply List.ext_getElem?
        intro i
        by_cases hi : i < 6
        · rw [List.getElem?_take, if_pos hi, List.getElem?_drop]
          have h6 : ∃ u, (zs j).cells[i]? = some u := ⟨_, List.getElem?_eq_getElem (show i < (zs j).cells.length from hi)⟩
          obtain ⟨u, hu⟩ := h6
          rw [hu, hc i u hu]
        · rw [List.getElem?_take, if_neg hi, List.getElem?_eq_none (show (zs j).cells.length ≤ i by show 6 ≤ i; omega)]
    · have each : ∀ i, i < cap → ∃ cs n, W'.cells? base (a.add (i * Try.prog.cellsOf 125)) (Try.prog.cellsOf 125) = some cs ∧ DataW.trod enc Try.prog W' base (fun b => decide (b < W.heap.size)) held n 125 cs = some (D i, Pl i) := by
        intro i hi
        rw [rf_cells]
        obtain ⟨cs', hc, ht⟩ := hel i hi
        obtain ⟨l, rfl, hx, w0, w1, w2, w3, w4, w5⟩ := rf_down ht
        refine ⟨_, 2, ?_, by rw [hx]; exact rf_up l w0 w1 w2 w3 w4 w5⟩
        have hlt := World.cells?_block hc (by decide)
        obtain ⟨h1, h2, h3⟩ := World.cells?_some hc
        refine World.cells?_of_each h1 h2 fun j hj => ?_
        rw [← h3 j hj]
        have hbl : ((a.add (i * 6)).add j).block = (a.add (i * 6)).block := by
          simp only [Addr.add]
          split <;> rfl
        exact bel.cell (by rw [hbl]; exact hlt)
      have hsz : 0 < cap → a.block < W.heap.size := by
        intro h0
        obtain ⟨cs', hc, _⟩ := hel 0 h0
        have := World.cells?_block hc (by decide)
        simpa [Addr.add] using this
      by_cases h0 : 0 < cap
      · exact shut_slice_whole Try.underlying45 hb hl hm (decide_eq_true (hsz h0)) D Pl each
      · obtain rfl : cap = 0 := by omega
        by_cases hs : a.block < W.heap.size
        · exact shut_slice_whole Try.underlying45 hb hl hm (decide_eq_true hs) D Pl each
        · obtain rfl : len = 0 := by omega
          have := shut_slice (enc := enc) (P := Try.prog) (w := W') (base := base) (spare := fun b => decide (b < W.heap.size)) (held := held) (a := a) (len := 0) (cap := 0) Try.underlying45 hb hl hm (decide_eq_false hs) D Pl (fun i hi => absurd hi (Nat.not_lt_zero _))
          simpa using this
end
end Go.Proofs.Ythngkopcadlciaa
namespace Go.Proofs.Ythngkopcadlciaa
open Go.RowKit
theorem sagMirrors_calls (W : World) (back : Int) (a : Option Addr) (len cap : Nat) (a_ b_ : Int) (h : Raws W a len) : Calls Try.prog 9 #[.int .i64 back, .slice a len cap, .int .i64 a_, .int .i64 b_] W fun e W' => e = .returned (.bool true) ∧ Below W.heap.size W W' := by
  rcases h with rfl | ⟨b, off, rfl, cs, ty, fr, hh, zs, hz⟩
  · refine (c_lawSagMirrors0 back a_ b_ a cap known14_true (fun S _ => List.all_eq_true.2 fun s _ => sagMirR_true _ s) W (by simp [At]) (by simp)).mono ?_
    rintro e w' ⟨v', N, he, ⟨rfl, _⟩, _, _, hb⟩
    exact ⟨he, hb⟩
  · have hl : ((List.range len).map zs).length = len := by simp
    have hA : At [⟨b, cs, ty, true⟩] W := by
      intro c hc
      obtain rfl := List.mem_singleton.1 hc
      exact ⟨fr, hh⟩
    have hg := c_lawSagMirrors back a_ b_ ((List.range len).map zs) b off ty cap cs (fun j z hj => by
      have hlt : j < len := by
        have := (List.getElem?_eq_some_iff.1 hj).1
        rw [hl] at this
        exact this
      have := hz j hlt
      rw [this]
      simp only [List.getElem?_map, List.getElem?_range hlt, Option.map_some, Option.some.injEq] at hj
      rw [hj]) known14_true (fun S _ => List.all_eq_true.2 fun s _ => sagMirR_true _ s)
    rw [hl] at hg
    refine (hg W hA (by simp)).mono ?_
    rintro e w' ⟨v', N, he, ⟨rfl, _⟩, _, _, hb⟩
    exact ⟨he, hb⟩
end Go.Proofs.Ythngkopcadlciaa
