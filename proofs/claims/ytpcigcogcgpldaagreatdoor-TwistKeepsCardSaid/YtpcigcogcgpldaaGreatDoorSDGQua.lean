/- A text of this claim's own: SD.GQua. -/
import Derived.Test.YtpcigcogcgpldaaGreatDoorSDNames
set_option linter.unusedVariables false
set_option linter.unusedSimpArgs false
set_option linter.unusedVariables false
set_option maxRecDepth 100000
set_option maxHeartbeats 4000000
namespace Go.Proofs.YtpcigcogcgpldaaGreatDoor
open Go Go.Dx
abbrev qs1 : List Value := [] ++ (q4 0 0 0 1)
abbrev qs2 : List Value := qs1 ++ (q4 0 0 1 (-1))
abbrev qs3 : List Value := qs2 ++ (q4 0 0 1 0)
abbrev qs4 : List Value := qs3 ++ (q4 0 0 1 1)
abbrev qs5 : List Value := qs4 ++ (q4 0 1 (-1) 0)
abbrev qs6 : List Value := qs5 ++ (q4 0 1 0 (-1))
abbrev qs7 : List Value := qs6 ++ (q4 0 1 0 0)
abbrev qs8 : List Value := qs7 ++ (q4 0 1 0 1)
abbrev qs9 : List Value := qs8 ++ (q4 0 1 1 0)
abbrev qs10 : List Value := qs9 ++ (q4 1 (-1) (-1) (-1))
abbrev qs11 : List Value := qs10 ++ (q4 1 (-1) (-1) 1)
abbrev qs12 : List Value := qs11 ++ (q4 1 (-1) 0 0)
abbrev qs13 : List Value := qs12 ++ (q4 1 (-1) 1 (-1))
abbrev qs14 : List Value := qs13 ++ (q4 1 (-1) 1 1)
abbrev qs15 : List Value := qs14 ++ (q4 1 0 (-1) 0)
abbrev qs16 : List Value := qs15 ++ (q4 1 0 0 (-1))
abbrev qs17 : List Value := qs16 ++ (q4 1 0 0 0)
abbrev qs18 : List Value := qs17 ++ (q4 1 0 0 1)
abbrev qs19 : List Value := qs18 ++ (q4 1 0 1 0)
abbrev qs20 : List Value := qs19 ++ (q4 1 1 (-1) (-1))
abbrev qs21 : List Value := qs20 ++ (q4 1 1 (-1) 1)
abbrev qs22 : List Value := qs21 ++ (q4 1 1 0 0)
abbrev qs23 : List Value := qs22 ++ (q4 1 1 1 (-1))
abbrev qs24 : List Value := qs23 ++ (q4 1 1 1 1)
-- dowel/motion.Quarters
theorem E_motion_Quarters  (V0 : VH) (R : Value → VH → Prop)
    (h : ∀ m0 : Nat, CSpec Tryz.prog n_motion_Check #[(.agg #[(.int .i64 (-1 : Int)), (.int .i64 (-1 : Int)), (.int .i64 (-1 : Int)), (.int .i64 (-1 : Int)), (.string (⟨#[48]⟩ : ByteArray)), (.string (⟨#[48]⟩ : ByteArray)), (.string (⟨#[48]⟩ : ByteArray))])] V0 fun v0 V1 =>
    ∃ n1 : Int, v0 = (.int .i64 n1) ∧
    (n1 == (0 : Int)) = false ∧
    ∀ m2 : Nat, ∀ m3 : Nat, CSpec Tryz.prog n_motion_Check #[(.agg #[(.int .i64 (-1 : Int)), (.int .i64 (-1 : Int)), (.int .i64 (-1 : Int)), (.int .i64 (1 : Int)), (.string (⟨#[48]⟩ : ByteArray)), (.string (⟨#[48]⟩ : ByteArray)), (.string (⟨#[48]⟩ : ByteArray))])] V1 fun v1 V2 =>
    ∃ n4 : Int, v1 = (.int .i64 n4) ∧
    (n4 == (0 : Int)) = false ∧
    ∀ m5 : Nat, ∀ m6 : Nat, CSpec Tryz.prog n_motion_Check #[(.agg #[(.int .i64 (-1 : Int)), (.int .i64 (-1 : Int)), (.int .i64 (0 : Int)), (.int .i64 (0 : Int)), (.string (⟨#[48]⟩ : ByteArray)), (.string (⟨#[48]⟩ : ByteArray)), (.string (⟨#[48]⟩ : ByteArray))])] V2 fun v2 V3 =>
    ∃ n7 : Int, v2 = (.int .i64 n7) ∧
    (n7 == (0 : Int)) = false ∧
    ∀ m8 : Nat, ∀ m9 : Nat, CSpec Tryz.prog n_motion_Check #[(.agg #[(.int .i64 (-1 : Int)), (.int .i64 (-1 : Int)), (.int .i64 (1 : Int)), (.int .i64 (-1 : Int)), (.string (⟨#[48]⟩ : ByteArray)), (.string (⟨#[48]⟩ : ByteArray)), (.string (⟨#[48]⟩ : ByteArray))])] V3 fun v3 V4 =>
    ∃ n10 : Int, v3 = (.int .i64 n10) ∧
    (n10 == (0 : Int)) = false ∧
    ∀ m11 : Nat, ∀ m12 : Nat, CSpec Tryz.prog n_motion_Check #[(.agg #[(.int .i64 (-1 : Int)), (.int .i64 (-1 : Int)), (.int .i64 (1 : Int)), (.int .i64 (1 : Int)), (.string (⟨#[48]⟩ : ByteArray)), (.string (⟨#[48]⟩ : ByteArray)), (.string (⟨#[48]⟩ : ByteArray))])] V4 fun v4 V5 =>
    ∃ n13 : Int, v4 = (.int .i64 n13) ∧
    (n13 == (0 : Int)) = false ∧
    ∀ m14 : Nat, ∀ m15 : Nat, CSpec Tryz.prog n_motion_Check #[(.agg #[(.int .i64 (-1 : Int)), (.int .i64 (0 : Int)), (.int .i64 (-1 : Int)), (.int .i64 (0 : Int)), (.string (⟨#[48]⟩ : ByteArray)), (.string (⟨#[48]⟩ : ByteArray)), (.string (⟨#[48]⟩ : ByteArray))])] V5 fun v5 V6 =>
    ∃ n16 : Int, v5 = (.int .i64 n16) ∧
    (n16 == (0 : Int)) = false ∧
    ∀ m17 : Nat, ∀ m18 : Nat, CSpec Tryz.prog n_motion_Check #[(.agg #[(.int .i64 (-1 : Int)), (.int .i64 (0 : Int)), (.int .i64 (0 : Int)), (.int .i64 (-1 : Int)), (.string (⟨#[48]⟩ : ByteArray)), (.string (⟨#[48]⟩ : ByteArray)), (.string (⟨#[48]⟩ : ByteArray))])] V6 fun v6 V7 =>
    ∃ n19 : Int, v6 = (.int .i64 n19) ∧
    (n19 == (0 : Int)) = false ∧
    ∀ m20 : Nat, CSpec Tryz.prog n_motion_Check #[(.agg #[(.int .i64 (-1 : Int)), (.int .i64 (0 : Int)), (.int .i64 (0 : Int)), (.int .i64 (0 : Int)), (.string (⟨#[48]⟩ : ByteArray)), (.string (⟨#[48]⟩ : ByteArray)), (.string (⟨#[48]⟩ : ByteArray))])] V7 fun v7 V8 =>
    ∃ n21 : Int, v7 = (.int .i64 n21) ∧
    (n21 == (0 : Int)) = false ∧
    ∀ m22 : Nat, CSpec Tryz.prog n_motion_Check #[(.agg #[(.int .i64 (-1 : Int)), (.int .i64 (0 : Int)), (.int .i64 (0 : Int)), (.int .i64 (1 : Int)), (.string (⟨#[48]⟩ : ByteArray)), (.string (⟨#[48]⟩ : ByteArray)), (.string (⟨#[48]⟩ : ByteArray))])] V8 fun v8 V9 =>
    ∃ n23 : Int, v8 = (.int .i64 n23) ∧
    (n23 == (0 : Int)) = false ∧
    ∀ m24 : Nat, ∀ m25 : Nat, CSpec Tryz.prog n_motion_Check #[(.agg #[(.int .i64 (-1 : Int)), (.int .i64 (0 : Int)), (.int .i64 (1 : Int)), (.int .i64 (0 : Int)), (.string (⟨#[48]⟩ : ByteArray)), (.string (⟨#[48]⟩ : ByteArray)), (.string (⟨#[48]⟩ : ByteArray))])] V9 fun v9 V10 =>
    ∃ n26 : Int, v9 = (.int .i64 n26) ∧
    (n26 == (0 : Int)) = false ∧
    ∀ m27 : Nat, ∀ m28 : Nat, CSpec Tryz.prog n_motion_Check #[(.agg #[(.int .i64 (-1 : Int)), (.int .i64 (1 : Int)), (.int .i64 (-1 : Int)), (.int .i64 (-1 : Int)), (.string (⟨#[48]⟩ : ByteArray)), (.string (⟨#[48]⟩ : ByteArray)), (.string (⟨#[48]⟩ : ByteArray))])] V10 fun v10 V11 =>
    ∃ n29 : Int, v10 = (.int .i64 n29) ∧
    (n29 == (0 : Int)) = false ∧
    ∀ m30 : Nat, ∀ m31 : Nat, CSpec Tryz.prog n_motion_Check #[(.agg #[(.int .i64 (-1 : Int)), (.int .i64 (1 : Int)), (.int .i64 (-1 : Int)), (.int .i64 (1 : Int)), (.string (⟨#[48]⟩ : ByteArray)), (.string (⟨#[48]⟩ : ByteArray)), (.string (⟨#[48]⟩ : ByteArray))])] V11 fun v11 V12 =>
    ∃ n32 : Int, v11 = (.int .i64 n32) ∧
    (n32 == (0 : Int)) = false ∧
    ∀ m33 : Nat, ∀ m34 : Nat, CSpec Tryz.prog n_motion_Check #[(.agg #[(.int .i64 (-1 : Int)), (.int .i64 (1 : Int)), (.int .i64 (0 : Int)), (.int .i64 (0 : Int)), (.string (⟨#[48]⟩ : ByteArray)), (.string (⟨#[48]⟩ : ByteArray)), (.string (⟨#[48]⟩ : ByteArray))])] V12 fun v12 V13 =>
    ∃ n35 : Int, v12 = (.int .i64 n35) ∧
    (n35 == (0 : Int)) = false ∧
    ∀ m36 : Nat, ∀ m37 : Nat, CSpec Tryz.prog n_motion_Check #[(.agg #[(.int .i64 (-1 : Int)), (.int .i64 (1 : Int)), (.int .i64 (1 : Int)), (.int .i64 (-1 : Int)), (.string (⟨#[48]⟩ : ByteArray)), (.string (⟨#[48]⟩ : ByteArray)), (.string (⟨#[48]⟩ : ByteArray))])] V13 fun v13 V14 =>
    ∃ n38 : Int, v13 = (.int .i64 n38) ∧
    (n38 == (0 : Int)) = false ∧
    ∀ m39 : Nat, ∀ m40 : Nat, CSpec Tryz.prog n_motion_Check #[(.agg #[(.int .i64 (-1 : Int)), (.int .i64 (1 : Int)), (.int .i64 (1 : Int)), (.int .i64 (1 : Int)), (.string (⟨#[48]⟩ : ByteArray)), (.string (⟨#[48]⟩ : ByteArray)), (.string (⟨#[48]⟩ : ByteArray))])] V14 fun v14 V15 =>
    ∃ n41 : Int, v14 = (.int .i64 n41) ∧
    (n41 == (0 : Int)) = false ∧
    ∀ m42 : Nat, ∀ m43 : Nat, CSpec Tryz.prog n_motion_Check #[(.agg #[(.int .i64 (0 : Int)), (.int .i64 (-1 : Int)), (.int .i64 (-1 : Int)), (.int .i64 (0 : Int)), (.string (⟨#[48]⟩ : ByteArray)), (.string (⟨#[48]⟩ : ByteArray)), (.string (⟨#[48]⟩ : ByteArray))])] V15 fun v15 V16 =>
    ∃ n44 : Int, v15 = (.int .i64 n44) ∧
    (n44 == (0 : Int)) = false ∧
    ∀ m45 : Nat, ∀ m46 : Nat, CSpec Tryz.prog n_motion_Check #[(.agg #[(.int .i64 (0 : Int)), (.int .i64 (-1 : Int)), (.int .i64 (0 : Int)), (.int .i64 (-1 : Int)), (.string (⟨#[48]⟩ : ByteArray)), (.string (⟨#[48]⟩ : ByteArray)), (.string (⟨#[48]⟩ : ByteArray))])] V16 fun v16 V17 =>
    ∃ n47 : Int, v16 = (.int .i64 n47) ∧
    (n47 == (0 : Int)) = false ∧
    ∀ m48 : Nat, CSpec Tryz.prog n_motion_Check #[(.agg #[(.int .i64 (0 : Int)), (.int .i64 (-1 : Int)), (.int .i64 (0 : Int)), (.int .i64 (0 : Int)), (.string (⟨#[48]⟩ : ByteArray)), (.string (⟨#[48]⟩ : ByteArray)), (.string (⟨#[48]⟩ : ByteArray))])] V17 fun v17 V18 =>
    ∃ n49 : Int, v17 = (.int .i64 n49) ∧
    (n49 == (0 : Int)) = false ∧
    ∀ m50 : Nat, CSpec Tryz.prog n_motion_Check #[(.agg #[(.int .i64 (0 : Int)), (.int .i64 (-1 : Int)), (.int .i64 (0 : Int)), (.int .i64 (1 : Int)), (.string (⟨#[48]⟩ : ByteArray)), (.string (⟨#[48]⟩ : ByteArray)), (.string (⟨#[48]⟩ : ByteArray))])] V18 fun v18 V19 =>
    ∃ n51 : Int, v18 = (.int .i64 n51) ∧
    (n51 == (0 : Int)) = false ∧
    ∀ m52 : Nat, ∀ m53 : Nat, CSpec Tryz.prog n_motion_Check #[(.agg #[(.int .i64 (0 : Int)), (.int .i64 (-1 : Int)), (.int .i64 (1 : Int)), (.int .i64 (0 : Int)), (.string (⟨#[48]⟩ : ByteArray)), (.string (⟨#[48]⟩ : ByteArray)), (.string (⟨#[48]⟩ : ByteArray))])] V19 fun v19 V20 =>
    ∃ n54 : Int, v19 = (.int .i64 n54) ∧
    (n54 == (0 : Int)) = false ∧
    ∀ m55 : Nat, ∀ m56 : Nat, CSpec Tryz.prog n_motion_Check #[(.agg #[(.int .i64 (0 : Int)), (.int .i64 (0 : Int)), (.int .i64 (-1 : Int)), (.int .i64 (-1 : Int)), (.string (⟨#[48]⟩ : ByteArray)), (.string (⟨#[48]⟩ : ByteArray)), (.string (⟨#[48]⟩ : ByteArray))])] V20 fun v20 V21 =>
    ∃ n57 : Int, v20 = (.int .i64 n57) ∧
    (n57 == (0 : Int)) = false ∧
    ∀ m58 : Nat, CSpec Tryz.prog n_motion_Check #[(.agg #[(.int .i64 (0 : Int)), (.int .i64 (0 : Int)), (.int .i64 (-1 : Int)), (.int .i64 (0 : Int)), (.string (⟨#[48]⟩ : ByteArray)), (.string (⟨#[48]⟩ : ByteArray)), (.string (⟨#[48]⟩ : ByteArray))])] V21 fun v21 V22 =>
    ∃ n59 : Int, v21 = (.int .i64 n59) ∧
    (n59 == (0 : Int)) = false ∧
    ∀ m60 : Nat, CSpec Tryz.prog n_motion_Check #[(.agg #[(.int .i64 (0 : Int)), (.int .i64 (0 : Int)), (.int .i64 (-1 : Int)), (.int .i64 (1 : Int)), (.string (⟨#[48]⟩ : ByteArray)), (.string (⟨#[48]⟩ : ByteArray)), (.string (⟨#[48]⟩ : ByteArray))])] V22 fun v22 V23 =>
    ∃ n61 : Int, v22 = (.int .i64 n61) ∧
    (n61 == (0 : Int)) = false ∧
    ∀ m62 : Nat, CSpec Tryz.prog n_motion_Check #[(.agg #[(.int .i64 (0 : Int)), (.int .i64 (0 : Int)), (.int .i64 (0 : Int)), (.int .i64 (-1 : Int)), (.string (⟨#[48]⟩ : ByteArray)), (.string (⟨#[48]⟩ : ByteArray)), (.string (⟨#[48]⟩ : ByteArray))])] V23 fun v23 V24 =>
    ∃ n63 : Int, v23 = (.int .i64 n63) ∧
    (n63 == (0 : Int)) = false ∧
    ∀ m64 : Nat, CSpec Tryz.prog n_motion_Check #[(.agg #[(.int .i64 (0 : Int)), (.int .i64 (0 : Int)), (.int .i64 (0 : Int)), (.int .i64 (0 : Int)), (.string (⟨#[48]⟩ : ByteArray)), (.string (⟨#[48]⟩ : ByteArray)), (.string (⟨#[48]⟩ : ByteArray))])] V24 fun v24 V25 =>
    ∃ n65 : Int, v24 = (.int .i64 n65) ∧
    (n65 == (0 : Int)) = false ∧
    ∀ m66 : Nat, CSpec Tryz.prog n_motion_Check #[(.agg #[(.int .i64 (0 : Int)), (.int .i64 (0 : Int)), (.int .i64 (0 : Int)), (.int .i64 (1 : Int)), (.string (⟨#[48]⟩ : ByteArray)), (.string (⟨#[48]⟩ : ByteArray)), (.string (⟨#[48]⟩ : ByteArray))])] V25 fun v25 V26 =>
    ∃ n67 : Int, v25 = (.int .i64 n67) ∧
    (n67 == (0 : Int)) = true ∧
    ∀ m68 : Nat, ∀ (m26g : Nat) (tl26g : List Value), GOk 4 qs1 tl26g →
    ∀ m69 : Nat, CSpec Tryz.prog n_motion_Check #[(.agg #[(.int .i64 (0 : Int)), (.int .i64 (0 : Int)), (.int .i64 (1 : Int)), (.int .i64 (-1 : Int)), (.string (⟨#[48]⟩ : ByteArray)), (.string (⟨#[48]⟩ : ByteArray)), (.string (⟨#[48]⟩ : ByteArray))])] V26 fun v27 V28 =>
    ∃ n70 : Int, v27 = (.int .i64 n70) ∧
    (n70 == (0 : Int)) = true ∧
    ∀ m71 : Nat, ((glen 4 qs1) == (glen 4 qs1)) = true ∧
    ((gtot 4 qs1 tl26g) == (gtot 4 qs1 tl26g)) = true ∧
    (decide (GOk 4 qs1 tl26g)) = true ∧
    (decide ((0 : Int) < ((glen 4 qs1) + (1 : Int)))) = true ∧
    (decide (((glen 4 qs1) + (1 : Int)) ≤ (1099511627776 : Int))) = true ∧
    ∀ (m28g : Nat) (tl28g : List Value), GOk 4 qs2 tl28g →
    ∀ m72 : Nat, CSpec Tryz.prog n_motion_Check #[(.agg #[(.int .i64 (0 : Int)), (.int .i64 (0 : Int)), (.int .i64 (1 : Int)), (.int .i64 (0 : Int)), (.string (⟨#[48]⟩ : ByteArray)), (.string (⟨#[48]⟩ : ByteArray)), (.string (⟨#[48]⟩ : ByteArray))])] V28 fun v29 V30 =>
    ∃ n73 : Int, v29 = (.int .i64 n73) ∧
    (n73 == (0 : Int)) = true ∧
    ∀ m74 : Nat, ((glen 4 qs2) == (glen 4 qs2)) = true ∧
    ((gtot 4 qs2 tl28g) == (gtot 4 qs2 tl28g)) = true ∧
    (decide (GOk 4 qs2 tl28g)) = true ∧
    (decide ((0 : Int) < ((glen 4 qs2) + (1 : Int)))) = true ∧
    (decide (((glen 4 qs2) + (1 : Int)) ≤ (1099511627776 : Int))) = true ∧
    ∀ (m30g : Nat) (tl30g : List Value), GOk 4 qs3 tl30g →
    ∀ m75 : Nat, CSpec Tryz.prog n_motion_Check #[(.agg #[(.int .i64 (0 : Int)), (.int .i64 (0 : Int)), (.int .i64 (1 : Int)), (.int .i64 (1 : Int)), (.string (⟨#[48]⟩ : ByteArray)), (.string (⟨#[48]⟩ : ByteArray)), (.string (⟨#[48]⟩ : ByteArray))])] V30 fun v31 V32 =>
    ∃ n76 : Int, v31 = (.int .i64 n76) ∧
    (n76 == (0 : Int)) = true ∧
    ∀ m77 : Nat, ((glen 4 qs3) == (glen 4 qs3)) = true ∧
    ((gtot 4 qs3 tl30g) == (gtot 4 qs3 tl30g)) = true ∧
    (decide (GOk 4 qs3 tl30g)) = true ∧
    (decide ((0 : Int) < ((glen 4 qs3) + (1 : Int)))) = true ∧
    (decide (((glen 4 qs3) + (1 : Int)) ≤ (1099511627776 : Int))) = true ∧
    ∀ (m32g : Nat) (tl32g : List Value), GOk 4 qs4 tl32g →
    ∀ m78 : Nat, ∀ m79 : Nat, CSpec Tryz.prog n_motion_Check #[(.agg #[(.int .i64 (0 : Int)), (.int .i64 (1 : Int)), (.int .i64 (-1 : Int)), (.int .i64 (0 : Int)), (.string (⟨#[48]⟩ : ByteArray)), (.string (⟨#[48]⟩ : ByteArray)), (.string (⟨#[48]⟩ : ByteArray))])] V32 fun v33 V34 =>
    ∃ n80 : Int, v33 = (.int .i64 n80) ∧
    (n80 == (0 : Int)) = true ∧
    ∀ m81 : Nat, ((glen 4 qs4) == (glen 4 qs4)) = true ∧
    ((gtot 4 qs4 tl32g) == (gtot 4 qs4 tl32g)) = true ∧
    (decide (GOk 4 qs4 tl32g)) = true ∧
    (decide ((0 : Int) < ((glen 4 qs4) + (1 : Int)))) = true ∧
    (decide (((glen 4 qs4) + (1 : Int)) ≤ (1099511627776 : Int))) = true ∧
    ∀ (m34g : Nat) (tl34g : List Value), GOk 4 qs5 tl34g →
    ∀ m82 : Nat, ∀ m83 : Nat, CSpec Tryz.prog n_motion_Check #[(.agg #[(.int .i64 (0 : Int)), (.int .i64 (1 : Int)), (.int .i64 (0 : Int)), (.int .i64 (-1 : Int)), (.string (⟨#[48]⟩ : ByteArray)), (.string (⟨#[48]⟩ : ByteArray)), (.string (⟨#[48]⟩ : ByteArray))])] V34 fun v35 V36 =>
    ∃ n84 : Int, v35 = (.int .i64 n84) ∧
    (n84 == (0 : Int)) = true ∧
    ∀ m85 : Nat, ((glen 4 qs5) == (glen 4 qs5)) = true ∧
    ((gtot 4 qs5 tl34g) == (gtot 4 qs5 tl34g)) = true ∧
    (decide (GOk 4 qs5 tl34g)) = true ∧
    (decide ((0 : Int) < ((glen 4 qs5) + (1 : Int)))) = true ∧
    (decide (((glen 4 qs5) + (1 : Int)) ≤ (1099511627776 : Int))) = true ∧
    ∀ (m36g : Nat) (tl36g : List Value), GOk 4 qs6 tl36g →
    ∀ m86 : Nat, CSpec Tryz.prog n_motion_Check #[(.agg #[(.int .i64 (0 : Int)), (.int .i64 (1 : Int)), (.int .i64 (0 : Int)), (.int .i64 (0 : Int)), (.string (⟨#[48]⟩ : ByteArray)), (.string (⟨#[48]⟩ : ByteArray)), (.string (⟨#[48]⟩ : ByteArray))])] V36 fun v37 V38 =>
    ∃ n87 : Int, v37 = (.int .i64 n87) ∧
    (n87 == (0 : Int)) = true ∧
    ∀ m88 : Nat, ((glen 4 qs6) == (glen 4 qs6)) = true ∧
    ((gtot 4 qs6 tl36g) == (gtot 4 qs6 tl36g)) = true ∧
    (decide (GOk 4 qs6 tl36g)) = true ∧
    (decide ((0 : Int) < ((glen 4 qs6) + (1 : Int)))) = true ∧
    (decide (((glen 4 qs6) + (1 : Int)) ≤ (1099511627776 : Int))) = true ∧
    ∀ (m38g : Nat) (tl38g : List Value), GOk 4 qs7 tl38g →
    ∀ m89 : Nat, CSpec Tryz.prog n_motion_Check #[(.agg #[(.int .i64 (0 : Int)), (.int .i64 (1 : Int)), (.int .i64 (0 : Int)), (.int .i64 (1 : Int)), (.string (⟨#[48]⟩ : ByteArray)), (.string (⟨#[48]⟩ : ByteArray)), (.string (⟨#[48]⟩ : ByteArray))])] V38 fun v39 V40 =>
    ∃ n90 : Int, v39 = (.int .i64 n90) ∧
    (n90 == (0 : Int)) = true ∧
    ∀ m91 : Nat, ((glen 4 qs7) == (glen 4 qs7)) = true ∧
    ((gtot 4 qs7 tl38g) == (gtot 4 qs7 tl38g)) = true ∧
    (decide (GOk 4 qs7 tl38g)) = true ∧
    (decide ((0 : Int) < ((glen 4 qs7) + (1 : Int)))) = true ∧
    (decide (((glen 4 qs7) + (1 : Int)) ≤ (1099511627776 : Int))) = true ∧
    ∀ (m40g : Nat) (tl40g : List Value), GOk 4 qs8 tl40g →
    ∀ m92 : Nat, ∀ m93 : Nat, CSpec Tryz.prog n_motion_Check #[(.agg #[(.int .i64 (0 : Int)), (.int .i64 (1 : Int)), (.int .i64 (1 : Int)), (.int .i64 (0 : Int)), (.string (⟨#[48]⟩ : ByteArray)), (.string (⟨#[48]⟩ : ByteArray)), (.string (⟨#[48]⟩ : ByteArray))])] V40 fun v41 V42 =>
    ∃ n94 : Int, v41 = (.int .i64 n94) ∧
    (n94 == (0 : Int)) = true ∧
    ∀ m95 : Nat, ((glen 4 qs8) == (glen 4 qs8)) = true ∧
    ((gtot 4 qs8 tl40g) == (gtot 4 qs8 tl40g)) = true ∧
    (decide (GOk 4 qs8 tl40g)) = true ∧
    (decide ((0 : Int) < ((glen 4 qs8) + (1 : Int)))) = true ∧
    (decide (((glen 4 qs8) + (1 : Int)) ≤ (1099511627776 : Int))) = true ∧
    ∀ (m42g : Nat) (tl42g : List Value), GOk 4 qs9 tl42g →
    ∀ m96 : Nat, ∀ m97 : Nat, CSpec Tryz.prog n_motion_Check #[(.agg #[(.int .i64 (1 : Int)), (.int .i64 (-1 : Int)), (.int .i64 (-1 : Int)), (.int .i64 (-1 : Int)), (.string (⟨#[48]⟩ : ByteArray)), (.string (⟨#[48]⟩ : ByteArray)), (.string (⟨#[48]⟩ : ByteArray))])] V42 fun v43 V44 =>
    ∃ n98 : Int, v43 = (.int .i64 n98) ∧
    (n98 == (0 : Int)) = true ∧
    ∀ m99 : Nat, ((glen 4 qs9) == (glen 4 qs9)) = true ∧
    ((gtot 4 qs9 tl42g) == (gtot 4 qs9 tl42g)) = true ∧
    (decide (GOk 4 qs9 tl42g)) = true ∧
    (decide ((0 : Int) < ((glen 4 qs9) + (1 : Int)))) = true ∧
    (decide (((glen 4 qs9) + (1 : Int)) ≤ (1099511627776 : Int))) = true ∧
    ∀ (m44g : Nat) (tl44g : List Value), GOk 4 qs10 tl44g →
    ∀ m100 : Nat, ∀ m101 : Nat, CSpec Tryz.prog n_motion_Check #[(.agg #[(.int .i64 (1 : Int)), (.int .i64 (-1 : Int)), (.int .i64 (-1 : Int)), (.int .i64 (1 : Int)), (.string (⟨#[48]⟩ : ByteArray)), (.string (⟨#[48]⟩ : ByteArray)), (.string (⟨#[48]⟩ : ByteArray))])] V44 fun v45 V46 =>
    ∃ n102 : Int, v45 = (.int .i64 n102) ∧
    (n102 == (0 : Int)) = true ∧
    ∀ m103 : Nat, ((glen 4 qs10) == (glen 4 qs10)) = true ∧
    ((gtot 4 qs10 tl44g) == (gtot 4 qs10 tl44g)) = true ∧
    (decide (GOk 4 qs10 tl44g)) = true ∧
    (decide ((0 : Int) < ((glen 4 qs10) + (1 : Int)))) = true ∧
    (decide (((glen 4 qs10) + (1 : Int)) ≤ (1099511627776 : Int))) = true ∧
    ∀ (m46g : Nat) (tl46g : List Value), GOk 4 qs11 tl46g →
    ∀ m104 : Nat, ∀ m105 : Nat, CSpec Tryz.prog n_motion_Check #[(.agg #[(.int .i64 (1 : Int)), (.int .i64 (-1 : Int)), (.int .i64 (0 : Int)), (.int .i64 (0 : Int)), (.string (⟨#[48]⟩ : ByteArray)), (.string (⟨#[48]⟩ : ByteArray)), (.string (⟨#[48]⟩ : ByteArray))])] V46 fun v47 V48 =>
    ∃ n106 : Int, v47 = (.int .i64 n106) ∧
    (n106 == (0 : Int)) = true ∧
    ∀ m107 : Nat, ((glen 4 qs11) == (glen 4 qs11)) = true ∧
    ((gtot 4 qs11 tl46g) == (gtot 4 qs11 tl46g)) = true ∧
    (decide (GOk 4 qs11 tl46g)) = true ∧
    (decide ((0 : Int) < ((glen 4 qs11) + (1 : Int)))) = true ∧
    (decide (((glen 4 qs11) + (1 : Int)) ≤ (1099511627776 : Int))) = true ∧
    ∀ (m48g : Nat) (tl48g : List Value), GOk 4 qs12 tl48g →
    ∀ m108 : Nat, ∀ m109 : Nat, CSpec Tryz.prog n_motion_Check #[(.agg #[(.int .i64 (1 : Int)), (.int .i64 (-1 : Int)), (.int .i64 (1 : Int)), (.int .i64 (-1 : Int)), (.string (⟨#[48]⟩ : ByteArray)), (.string (⟨#[48]⟩ : ByteArray)), (.string (⟨#[48]⟩ : ByteArray))])] V48 fun v49 V50 =>
    ∃ n110 : Int, v49 = (.int .i64 n110) ∧
    (n110 == (0 : Int)) = true ∧
    ∀ m111 : Nat, ((glen 4 qs12) == (glen 4 qs12)) = true ∧
    ((gtot 4 qs12 tl48g) == (gtot 4 qs12 tl48g)) = true ∧
    (decide (GOk 4 qs12 tl48g)) = true ∧
    (decide ((0 : Int) < ((glen 4 qs12) + (1 : Int)))) = true ∧
    (decide (((glen 4 qs12) + (1 : Int)) ≤ (1099511627776 : Int))) = true ∧
    ∀ (m50g : Nat) (tl50g : List Value), GOk 4 qs13 tl50g →
    ∀ m112 : Nat, ∀ m113 : Nat, CSpec Tryz.prog n_motion_Check #[(.agg #[(.int .i64 (1 : Int)), (.int .i64 (-1 : Int)), (.int .i64 (1 : Int)), (.int .i64 (1 : Int)), (.string (⟨#[48]⟩ : ByteArray)), (.string (⟨#[48]⟩ : ByteArray)), (.string (⟨#[48]⟩ : ByteArray))])] V50 fun v51 V52 =>
    ∃ n114 : Int, v51 = (.int .i64 n114) ∧
    (n114 == (0 : Int)) = true ∧
    ∀ m115 : Nat, ((glen 4 qs13) == (glen 4 qs13)) = true ∧
    ((gtot 4 qs13 tl50g) == (gtot 4 qs13 tl50g)) = true ∧
    (decide (GOk 4 qs13 tl50g)) = true ∧
    (decide ((0 : Int) < ((glen 4 qs13) + (1 : Int)))) = true ∧
    (decide (((glen 4 qs13) + (1 : Int)) ≤ (1099511627776 : Int))) = true ∧
    ∀ (m52g : Nat) (tl52g : List Value), GOk 4 qs14 tl52g →
    ∀ m116 : Nat, ∀ m117 : Nat, CSpec Tryz.prog n_motion_Check #[(.agg #[(.int .i64 (1 : Int)), (.int .i64 (0 : Int)), (.int .i64 (-1 : Int)), (.int .i64 (0 : Int)), (.string (⟨#[48]⟩ : ByteArray)), (.string (⟨#[48]⟩ : ByteArray)), (.string (⟨#[48]⟩ : ByteArray))])] V52 fun v53 V54 =>
    ∃ n118 : Int, v53 = (.int .i64 n118) ∧
    (n118 == (0 : Int)) = true ∧
    ∀ m119 : Nat, ((glen 4 qs14) == (glen 4 qs14)) = true ∧
    ((gtot 4 qs14 tl52g) == (gtot 4 qs14 tl52g)) = true ∧
    (decide (GOk 4 qs14 tl52g)) = true ∧
    (decide ((0 : Int) < ((glen 4 qs14) + (1 : Int)))) = true ∧
    (decide (((glen 4 qs14) + (1 : Int)) ≤ (1099511627776 : Int))) = true ∧
    ∀ (m54g : Nat) (tl54g : List Value), GOk 4 qs15 tl54g →
    ∀ m120 : Nat, ∀ m121 : Nat, CSpec Tryz.prog n_motion_Check #[(.agg #[(.int .i64 (1 : Int)), (.int .i64 (0 : Int)), (.int .i64 (0 : Int)), (.int .i64 (-1 : Int)), (.string (⟨#[48]⟩ : ByteArray)), (.string (⟨#[48]⟩ : ByteArray)), (.string (⟨#[48]⟩ : ByteArray))])] V54 fun v55 V56 =>
    ∃ n122 : Int, v55 = (.int .i64 n122) ∧
    (n122 == (0 : Int)) = true ∧
    ∀ m123 : Nat, ((glen 4 qs15) == (glen 4 qs15)) = true ∧
    ((gtot 4 qs15 tl54g) == (gtot 4 qs15 tl54g)) = true ∧
    (decide (GOk 4 qs15 tl54g)) = true ∧
    (decide ((0 : Int) < ((glen 4 qs15) + (1 : Int)))) = true ∧
    (decide (((glen 4 qs15) + (1 : Int)) ≤ (1099511627776 : Int))) = true ∧
    ∀ (m56g : Nat) (tl56g : List Value), GOk 4 qs16 tl56g →
    ∀ m124 : Nat, CSpec Tryz.prog n_motion_Check #[(.agg #[(.int .i64 (1 : Int)), (.int .i64 (0 : Int)), (.int .i64 (0 : Int)), (.int .i64 (0 : Int)), (.string (⟨#[48]⟩ : ByteArray)), (.string (⟨#[48]⟩ : ByteArray)), (.string (⟨#[48]⟩ : ByteArray))])] V56 fun v57 V58 =>
    ∃ n125 : Int, v57 = (.int .i64 n125) ∧
    (n125 == (0 : Int)) = true ∧
    ∀ m126 : Nat, ((glen 4 qs16) == (glen 4 qs16)) = true ∧
    ((gtot 4 qs16 tl56g) == (gtot 4 qs16 tl56g)) = true ∧
    (decide (GOk 4 qs16 tl56g)) = true ∧
    (decide ((0 : Int) < ((glen 4 qs16) + (1 : Int)))) = true ∧
    (decide (((glen 4 qs16) + (1 : Int)) ≤ (1099511627776 : Int))) = true ∧
    ∀ (m58g : Nat) (tl58g : List Value), GOk 4 qs17 tl58g →
    ∀ m127 : Nat, CSpec Tryz.prog n_motion_Check #[(.agg #[(.int .i64 (1 : Int)), (.int .i64 (0 : Int)), (.int .i64 (0 : Int)), (.int .i64 (1 : Int)), (.string (⟨#[48]⟩ : ByteArray)), (.string (⟨#[48]⟩ : ByteArray)), (.string (⟨#[48]⟩ : ByteArray))])] V58 fun v59 V60 =>
    ∃ n128 : Int, v59 = (.int .i64 n128) ∧
    (n128 == (0 : Int)) = true ∧
    ∀ m129 : Nat, ((glen 4 qs17) == (glen 4 qs17)) = true ∧
    ((gtot 4 qs17 tl58g) == (gtot 4 qs17 tl58g)) = true ∧
    (decide (GOk 4 qs17 tl58g)) = true ∧
    (decide ((0 : Int) < ((glen 4 qs17) + (1 : Int)))) = true ∧
    (decide (((glen 4 qs17) + (1 : Int)) ≤ (1099511627776 : Int))) = true ∧
    ∀ (m60g : Nat) (tl60g : List Value), GOk 4 qs18 tl60g →
    ∀ m130 : Nat, ∀ m131 : Nat, CSpec Tryz.prog n_motion_Check #[(.agg #[(.int .i64 (1 : Int)), (.int .i64 (0 : Int)), (.int .i64 (1 : Int)), (.int .i64 (0 : Int)), (.string (⟨#[48]⟩ : ByteArray)), (.string (⟨#[48]⟩ : ByteArray)), (.string (⟨#[48]⟩ : ByteArray))])] V60 fun v61 V62 =>
    ∃ n132 : Int, v61 = (.int .i64 n132) ∧
    (n132 == (0 : Int)) = true ∧
    ∀ m133 : Nat, ((glen 4 qs18) == (glen 4 qs18)) = true ∧
    ((gtot 4 qs18 tl60g) == (gtot 4 qs18 tl60g)) = true ∧
    (decide (GOk 4 qs18 tl60g)) = true ∧
    (decide ((0 : Int) < ((glen 4 qs18) + (1 : Int)))) = true ∧
    (decide (((glen 4 qs18) + (1 : Int)) ≤ (1099511627776 : Int))) = true ∧
    ∀ (m62g : Nat) (tl62g : List Value), GOk 4 qs19 tl62g →
    ∀ m134 : Nat, ∀ m135 : Nat, CSpec Tryz.prog n_motion_Check #[(.agg #[(.int .i64 (1 : Int)), (.int .i64 (1 : Int)), (.int .i64 (-1 : Int)), (.int .i64 (-1 : Int)), (.string (⟨#[48]⟩ : ByteArray)), (.string (⟨#[48]⟩ : ByteArray)), (.string (⟨#[48]⟩ : ByteArray))])] V62 fun v63 V64 =>
    ∃ n136 : Int, v63 = (.int .i64 n136) ∧
    (n136 == (0 : Int)) = true ∧
    ∀ m137 : Nat, ((glen 4 qs19) == (glen 4 qs19)) = true ∧
    ((gtot 4 qs19 tl62g) == (gtot 4 qs19 tl62g)) = true ∧
    (decide (GOk 4 qs19 tl62g)) = true ∧
    (decide ((0 : Int) < ((glen 4 qs19) + (1 : Int)))) = true ∧
    (decide (((glen 4 qs19) + (1 : Int)) ≤ (1099511627776 : Int))) = true ∧
    ∀ (m64g : Nat) (tl64g : List Value), GOk 4 qs20 tl64g →
    ∀ m138 : Nat, ∀ m139 : Nat, CSpec Tryz.prog n_motion_Check #[(.agg #[(.int .i64 (1 : Int)), (.int .i64 (1 : Int)), (.int .i64 (-1 : Int)), (.int .i64 (1 : Int)), (.string (⟨#[48]⟩ : ByteArray)), (.string (⟨#[48]⟩ : ByteArray)), (.string (⟨#[48]⟩ : ByteArray))])] V64 fun v65 V66 =>
    ∃ n140 : Int, v65 = (.int .i64 n140) ∧
    (n140 == (0 : Int)) = true ∧
    ∀ m141 : Nat, ((glen 4 qs20) == (glen 4 qs20)) = true ∧
    ((gtot 4 qs20 tl64g) == (gtot 4 qs20 tl64g)) = true ∧
    (decide (GOk 4 qs20 tl64g)) = true ∧
    (decide ((0 : Int) < ((glen 4 qs20) + (1 : Int)))) = true ∧
    (decide (((glen 4 qs20) + (1 : Int)) ≤ (1099511627776 : Int))) = true ∧
    ∀ (m66g : Nat) (tl66g : List Value), GOk 4 qs21 tl66g →
    ∀ m142 : Nat, ∀ m143 : Nat, CSpec Tryz.prog n_motion_Check #[(.agg #[(.int .i64 (1 : Int)), (.int .i64 (1 : Int)), (.int .i64 (0 : Int)), (.int .i64 (0 : Int)), (.string (⟨#[48]⟩ : ByteArray)), (.string (⟨#[48]⟩ : ByteArray)), (.string (⟨#[48]⟩ : ByteArray))])] V66 fun v67 V68 =>
    ∃ n144 : Int, v67 = (.int .i64 n144) ∧
    (n144 == (0 : Int)) = true ∧
    ∀ m145 : Nat, ((glen 4 qs21) == (glen 4 qs21)) = true ∧
    ((gtot 4 qs21 tl66g) == (gtot 4 qs21 tl66g)) = true ∧
    (decide (GOk 4 qs21 tl66g)) = true ∧
    (decide ((0 : Int) < ((glen 4 qs21) + (1 : Int)))) = true ∧
    (decide (((glen 4 qs21) + (1 : Int)) ≤ (1099511627776 : Int))) = true ∧
    ∀ (m68g : Nat) (tl68g : List Value), GOk 4 qs22 tl68g →
    ∀ m146 : Nat, ∀ m147 : Nat, CSpec Tryz.prog n_motion_Check #[(.agg #[(.int .i64 (1 : Int)), (.int .i64 (1 : Int)), (.int .i64 (1 : Int)), (.int .i64 (-1 : Int)), (.string (⟨#[48]⟩ : ByteArray)), (.string (⟨#[48]⟩ : ByteArray)), (.string (⟨#[48]⟩ : ByteArray))])] V68 fun v69 V70 =>
    ∃ n148 : Int, v69 = (.int .i64 n148) ∧
    (n148 == (0 : Int)) = true ∧
    ∀ m149 : Nat, ((glen 4 qs22) == (glen 4 qs22)) = true ∧
    ((gtot 4 qs22 tl68g) == (gtot 4 qs22 tl68g)) = true ∧
    (decide (GOk 4 qs22 tl68g)) = true ∧
    (decide ((0 : Int) < ((glen 4 qs22) + (1 : Int)))) = true ∧
    (decide (((glen 4 qs22) + (1 : Int)) ≤ (1099511627776 : Int))) = true ∧
    ∀ (m70g : Nat) (tl70g : List Value), GOk 4 qs23 tl70g →
    ∀ m150 : Nat, ∀ m151 : Nat, CSpec Tryz.prog n_motion_Check #[(.agg #[(.int .i64 (1 : Int)), (.int .i64 (1 : Int)), (.int .i64 (1 : Int)), (.int .i64 (1 : Int)), (.string (⟨#[48]⟩ : ByteArray)), (.string (⟨#[48]⟩ : ByteArray)), (.string (⟨#[48]⟩ : ByteArray))])] V70 fun v71 V72 =>
    ∃ n152 : Int, v71 = (.int .i64 n152) ∧
    (n152 == (0 : Int)) = true ∧
    ∀ m153 : Nat, ((glen 4 qs23) == (glen 4 qs23)) = true ∧
    ((gtot 4 qs23 tl70g) == (gtot 4 qs23 tl70g)) = true ∧
    (decide (GOk 4 qs23 tl70g)) = true ∧
    (decide ((0 : Int) < ((glen 4 qs23) + (1 : Int)))) = true ∧
    (decide (((glen 4 qs23) + (1 : Int)) ≤ (1099511627776 : Int))) = true ∧
    ∀ (m72g : Nat) (tl72g : List Value), GOk 4 qs24 tl72g →
    (V72.f m72g = none →
    R (.slice (some ⟨m72g, Int.toNat (0 : Int), none⟩) (Int.toNat (glen 4 qs24)) (Int.toNat (gtot 4 qs24 tl72g))) (V72.put m72g (.cells (List.toArray (qs24 ++ tl72g)) 77)))) :
    CSpec Tryz.prog n_motion_Quarters #[] V0 R :=
  enter (l := calTryz) (bor := borTryz) (own := ownTryz) (giv := givTryz) (grw := true) calOkTryz mixTryz Tryz.func73 (args := []) (fuel := 3000) (hh := [.d false, .d false, .d false, .d false, .d false, .d false, .d false, .d false, .d false, .d false, .d false, .d false, .d false, .d false, .d false, .d false, .d false, .d false, .d false, .d false, .d false, .d false, .d false, .d false, .d false, .d true, .d true, .d true, .d true, .d true, .d true, .d true, .d true, .d true, .d true, .d true, .d true, .d true, .d true, .d true, .d true, .d true, .d true, .d true, .d true, .d true, .d true, .d true, .d true]) (by kernel_rfl) (Eq.mpr (by kernel_rfl) h)
end Go.Proofs.YtpcigcogcgpldaaGreatDoor
