/-
  Part of a claim: definitions and lemmas that its theorem leans on, packed by wip/tools/pack.py.
-/
import Derived.Test.YtejefchehdifhaaDoorZG4
import Derived.Test.YtejefchehdifhaaDoorTie
import Derived.Test.YtejefchehdifhaaDoorCards
import Derived.WalkKit
import Derived.ProofKit
import Derived.ShutString
import Derived.Lay
import Derived.Stop.Joined
import Derived.SevenTiedAt
set_option linter.unusedVariables false
set_option linter.unusedSimpArgs false
section
set_option linter.unusedVariables false
set_option maxRecDepth 100000
namespace Go.Proofs.YtejefchehdifhaaDoor.Ev
open Go
def law03_TokenBlanks_lv : List Nat → Keep := lvOf [([0, 1, 0, 1, 1, 1, 1], ⟨2438, 128, [], false, false⟩), ([0, 1, 0, 1, 1, 1, 1, 1, 1, 1, 1, 1, 1, 1], ⟨307456, 0, [], false, false⟩)]
def law03_TokenBlanks_S0 (at_ : Int) (comment : ByteArray) (es : List (List FV)) (es1 : List (List FV)) (i : Int) : St := (St.mk [TV.und, (TV.one (AV.fz (FV.int .u8 at_))), (TV.one (AV.fz (FV.str comment))), TV.und, TV.und, TV.und, TV.und, (TV.one (AV.fz (FV.sl 1 es))), (TV.one (AV.fz (FV.sl 9 es1))), TV.und, TV.und, (TV.one (AV.fz (FV.int .i64 i))), TV.und, TV.und, TV.und, TV.und, TV.und, TV.und, TV.und, TV.und, TV.und, TV.und, TV.und, TV.und, TV.und, TV.und, TV.und, TV.und, TV.und, TV.und, TV.und, TV.und, TV.und, TV.und, TV.und, TV.und, TV.und, TV.und, TV.und, TV.und, TV.und, TV.und, TV.und, TV.und, TV.und, TV.und, TV.und, TV.und, TV.und, TV.und, TV.und, TV.und, TV.und, TV.und, TV.und, TV.und, TV.und, TV.und, TV.und, TV.und, TV.und, TV.und, TV.und, TV.und, TV.und, TV.und, TV.und, TV.und, TV.und, TV.und, TV.und, TV.und, TV.und, TV.und, TV.und, TV.und, TV.und, TV.und, TV.und, TV.und, TV.und, TV.und, TV.und, TV.und, TV.und, TV.und, TV.und, TV.und, TV.und, TV.und, TV.und, TV.und, TV.und, TV.und, TV.und, TV.und, TV.und, TV.und, TV.und, TV.und, TV.und, TV.und, TV.und, TV.und, TV.und, TV.und, TV.und, TV.und, TV.und, TV.und, TV.und, TV.und, TV.und, TV.und, TV.und, TV.und, TV.und, TV.und, TV.und, TV.und, TV.und, TV.und, TV.und, TV.und, TV.und, TV.und, TV.und, TV.und, TV.und, TV.und, TV.und, TV.und, TV.und, TV.und, TV.und, TV.und, TV.und, TV.und, TV.und, TV.und, TV.und, TV.und, TV.und, TV.und, TV.und, TV.und, TV.und, TV.und, TV.und, TV.und, TV.und, TV.und, TV.und, TV.und, TV.und, TV.und, TV.und, TV.und, TV.und, TV.und, TV.und, TV.und, TV.und, TV.und, TV.und, TV.und, TV.und] [])
def law03_TokenBlanks_L0 (R : TV → List Ob → Prop) (at_ : Int) (comment : ByteArray) (es : List (List FV)) (es1 : List (List FV)) (i : Int) : Prop := LoopAt Tryd.prog (modeOf [7] []) law03_TokenBlanks_lv Tryd.f3 none R [1, 1, 1, 1, 0, 1, 0] (law03_TokenBlanks_S0 at_ comment es es1 i)
def law03_TokenBlanks_S1 (es1 : List (List FV)) (n5 : Int) (es5 : List (List FV)) (i1 : Int) (o : List (List FV)) : St := (St.mk [TV.und, TV.und, TV.und, TV.und, TV.und, TV.und, TV.und, TV.und, (TV.one (AV.fz (FV.sl 9 es1))), TV.und, TV.und, TV.und, (TV.one (AV.fz (FV.int .i64 n5))), (TV.one (AV.ofl 1 0)), TV.und, (TV.one (AV.fz (FV.sl 9 es5))), TV.und, TV.und, (TV.one (AV.fz (FV.int .i64 i1))), TV.und, TV.und, TV.und, TV.und, TV.und, TV.und, TV.und, TV.und, TV.und, TV.und, TV.und, TV.und, TV.und, TV.und, TV.und, TV.und, TV.und, TV.und, TV.und, TV.und, TV.und, TV.und, TV.und, TV.und, TV.und, TV.und, TV.und, TV.und, TV.und, TV.und, TV.und, TV.und, TV.und, TV.und, TV.und, TV.und, TV.und, TV.und, TV.und, TV.und, TV.und, TV.und, TV.und, TV.und, TV.und, TV.und, TV.und, TV.und, TV.und, TV.und, TV.und, TV.und, TV.und, TV.und, TV.und, TV.und, TV.und, TV.und, TV.und, TV.und, TV.und, TV.und, TV.und, TV.und, TV.und, TV.und, TV.und, TV.und, TV.und, TV.und, TV.und, TV.und, TV.und, TV.und, TV.und, TV.und, TV.und, TV.und, TV.und, TV.und, TV.und, TV.und, TV.und, TV.und, TV.und, TV.und, TV.und, TV.und, TV.und, TV.und, TV.und, TV.und, TV.und, TV.und, TV.und, TV.und, TV.und, TV.und, TV.und, TV.und, TV.und, TV.und, TV.und, TV.und, TV.und, TV.und, TV.und, TV.und, TV.und, TV.und, TV.und, TV.und, TV.und, TV.und, TV.und, TV.und, TV.und, TV.und, TV.und, TV.und, TV.und, TV.und, TV.und, TV.und, TV.und, TV.und, TV.und, TV.und, TV.und, TV.und, TV.und, TV.und, TV.und, TV.und, TV.und, TV.und, TV.und, TV.und, TV.und, TV.und, TV.und, TV.und, TV.und, TV.und, TV.und, TV.und, TV.und, TV.und] [(Ob.f 3 1 o)])
def law03_TokenBlanks_L1 (R : TV → List Ob → Prop) (es1 : List (List FV)) (n5 : Int) (es5 : List (List FV)) (i1 : Int) (o : List (List FV)) : Prop := LoopAt Tryd.prog (modeOf [7] []) law03_TokenBlanks_lv Tryd.f3 none R [1, 1, 1, 1, 1, 1, 1, 1, 1, 1, 1, 0, 1, 0] (law03_TokenBlanks_S1 es1 n5 es5 i1 o)
def law03_TokenBlanks_R0 (R : TV → List Ob → Prop) (at_ : Int) (comment : ByteArray) (es : List (List FV)) (es1 : List (List FV)) (i : Int) : Prop :=
  ((((decide (i < (((ByteArray.size comment) : Nat) : Int))) = true) → (((0 : Int) ≤ i) ∧ (∃ c2 : UInt8, ((((ByteArray.data comment))[(Int.toNat i)]? = (some c2)) ∧ (((((((UInt8.toNat c2) : Nat) : Int) == 10) = true) → (R (TV.one (AV.fz (FV.bool true))) [])) ∧ ((((((UInt8.toNat c2) : Nat) : Int) == 10) = false) → (law03_TokenBlanks_L0 R at_ comment es es1 (IntKind.wrap .i64 (i + 1))))))))) ∧ (((decide (i < (((ByteArray.size comment) : Nat) : Int))) = false) → (((((List.length es1) : Nat) : Int) ≠ 0) ∧ (((0 : Int) ≤ (Int.tmod (IntKind.wrap .i64 at_) (((List.length es1) : Nat) : Int))) ∧ (∃ n218 : Int, (∃ s107 : ByteArray, (∃ n219 : Int, (∃ s108 : ByteArray, (∃ b64 : Bool, (∃ es112 : List (List FV), (∃ es113 : List (List FV), (∃ n220 : Int, (∃ n221 : Int, (((es1)[(Int.toNat (Int.tmod (IntKind.wrap .i64 at_) (((List.length es1) : Nat) : Int)))]? = (some [(FV.int .i64 n218), (FV.str s107), (FV.int .i64 n219), (FV.str s108), (FV.bool b64), (FV.sl 1 es112), (FV.sl 6 es113), (FV.int .i64 n220), (FV.int .i64 n221)])) ∧ (∃ es114 : List (List FV), ((Fn Tryd.prog 7 [(TV.one (AV.fz (FV.str comment)))] [] (TV.one (AV.ofl 1 0)) [(Ob.f 0 1 es114)]) ∧ (((((List.length [[(FV.int .i64 32)], [(FV.int .i64 59)]]) + (List.length es114)) * 8) ≤ 220000000000000) ∧ (((((List.length ([[(FV.int .i64 32)], [(FV.int .i64 59)]] ++ es114)) + (List.length [[(FV.int .i64 10)], [(FV.int .i64 9)]])) * 8) ≤ 220000000000000) ∧ ((((0 : Int) ≤ n221) ∧ (n221 ≤ (((List.length es) : Nat) : Int))) ∧ (((((List.length ([] : List (List FV))) + (List.length (List.take (Int.toNat n221) es))) * 8) ≤ 220000000000000) ∧ (((((List.length (([] : List (List FV)) ++ (List.take (Int.toNat n221) es))) + (List.length (([[(FV.int .i64 32)], [(FV.int .i64 59)]] ++ es114) ++ [[(FV.int .i64 10)], [(FV.int .i64 9)]]))) * 8) ≤ 220000000000000) ∧ ((((0 : Int) ≤ n221) ∧ (n221 ≤ (((List.length es) : Nat) : Int))) ∧ (((((List.length ((([] : List (List FV)) ++ (List.take (Int.toNat n221) es)) ++ (([[(FV.int .i64 32)], [(FV.int .i64 59)]] ++ es114) ++ [[(FV.int .i64 10)], [(FV.int .i64 9)]]))) + (List.length (List.drop (Int.toNat n221) es))) * 8) ≤ 220000000000000) ∧ (∃ es115 : List (List FV), (∃ n222 : Int, (∃ n223 : Int, ((Fn Tryd.prog 8 [(TV.one (AV.fz (FV.sl 1 (((([] : List (List FV)) ++ (List.take (Int.toNat n221) es)) ++ (([[(FV.int .i64 32)], [(FV.int .i64 59)]] ++ es114) ++ [[(FV.int .i64 10)], [(FV.int .i64 9)]])) ++ (List.drop (Int.toNat n221) es)))))] [] (TV.tup [(false, [(AV.fz (FV.sl 9 es115))]), (false, [(AV.fz (FV.int .i64 n222))]), (false, [(AV.fz (FV.int .i64 n223))])]) []) ∧ ((((n223 != 0) = true) → (R (TV.one (AV.fz (FV.bool false))) [])) ∧ (((n223 != 0) = false) → (((((((List.length es115) : Nat) : Int) != (((List.length es1) : Nat) : Int)) = true) → (R (TV.one (AV.fz (FV.bool false))) [])) ∧ ((((((List.length es115) : Nat) : Int) != (((List.length es1) : Nat) : Int)) = false) → (law03_TokenBlanks_L1 R es1 n221 es115 0 (([[(FV.int .i64 32)], [(FV.int .i64 59)]] ++ es114) ++ [[(FV.int .i64 10)], [(FV.int .i64 9)]])))))))))))))))))))))))))))))))))
theorem law03_TokenBlanks_l0 {R : TV → List Ob → Prop} {at_ : Int} {comment : ByteArray} {es : List (List FV)} {es1 : List (List FV)} {i : Int} (h : law03_TokenBlanks_R0 R at_ comment es es1 i) : law03_TokenBlanks_L0 R at_ comment es es1 i :=
  LoopAt.by_tr (by kernel_rfl) (by kernel_rfl) h
def law03_TokenBlanks_R1 (R : TV → List Ob → Prop) (es1 : List (List FV)) (n5 : Int) (es5 : List (List FV)) (i1 : Int) (o : List (List FV)) : Prop :=
  ((((decide (i1 < (((List.length es1) : Nat) : Int))) = true) → (((0 : Int) ≤ i1) ∧ (∃ n218 : Int, (∃ s107 : ByteArray, (∃ n219 : Int, (∃ s108 : ByteArray, (∃ b64 : Bool, (∃ es112 : List (List FV), (∃ es113 : List (List FV), (∃ n220 : Int, (∃ n221 : Int, (((es1)[(Int.toNat i1)]? = (some [(FV.int .i64 n218), (FV.str s107), (FV.int .i64 n219), (FV.str s108), (FV.bool b64), (FV.sl 1 es112), (FV.sl 6 es113), (FV.int .i64 n220), (FV.int .i64 n221)])) ∧ ((((decide (n5 ≤ n221)) = true) → (((0 : Int) ≤ i1) ∧ (∃ n222 : Int, (∃ s109 : ByteArray, (∃ n223 : Int, (∃ s110 : ByteArray, (∃ b65 : Bool, (∃ es114 : List (List FV), (∃ es115 : List (List FV), (∃ n224 : Int, (∃ n225 : Int, (((es5)[(Int.toNat i1)]? = (some [(FV.int .i64 n222), (FV.str s109), (FV.int .i64 n223), (FV.str s110), (FV.bool b65), (FV.sl 1 es114), (FV.sl 6 es115), (FV.int .i64 n224), (FV.int .i64 n225)])) ∧ (((0 : Int) ≤ i1) ∧ (∃ n226 : Int, (∃ s111 : ByteArray, (∃ n227 : Int, (∃ s112 : ByteArray, (∃ b66 : Bool, (∃ es116 : List (List FV), (∃ es117 : List (List FV), (∃ n228 : Int, (∃ n229 : Int, (((es1)[(Int.toNat i1)]? = (some [(FV.int .i64 n226), (FV.str s111), (FV.int .i64 n227), (FV.str s112), (FV.bool b66), (FV.sl 1 es116), (FV.sl 6 es117), (FV.int .i64 n228), (FV.int .i64 n229)])) ∧ ((((n222 != n226) = true) → (R (TV.one (AV.fz (FV.bool false))) [])) ∧ (((n222 != n226) = false) → (((0 : Int) ≤ i1) ∧ (∃ n230 : Int, (∃ s113 : ByteArray, (∃ n231 : Int, (∃ s114 : ByteArray, (∃ b67 : Bool, (∃ es118 : List (List FV), (∃ es119 : List (List FV), (∃ n232 : Int, (∃ n233 : Int, (((es5)[(Int.toNat i1)]? = (some [(FV.int .i64 n230), (FV.str s113), (FV.int .i64 n231), (FV.str s114), (FV.bool b67), (FV.sl 1 es118), (FV.sl 6 es119), (FV.int .i64 n232), (FV.int .i64 n233)])) ∧ (((0 : Int) ≤ i1) ∧ (∃ n234 : Int, (∃ s115 : ByteArray, (∃ n235 : Int, (∃ s116 : ByteArray, (∃ b68 : Bool, (∃ es120 : List (List FV), (∃ es121 : List (List FV), (∃ n236 : Int, (∃ n237 : Int, (((es1)[(Int.toNat i1)]? = (some [(FV.int .i64 n234), (FV.str s115), (FV.int .i64 n235), (FV.str s116), (FV.bool b68), (FV.sl 1 es120), (FV.sl 6 es121), (FV.int .i64 n236), (FV.int .i64 n237)])) ∧ ((((Bool.not ((ByteArray.toList s113) == (ByteArray.toList s115))) = true) → (R (TV.one (AV.fz (FV.bool false))) [])) ∧ (((Bool.not ((ByteArray.toList s113) == (ByteArray.toList s115))) = false) → (((0 : Int) ≤ i1) ∧ (∃ n238 : Int, (∃ s117 : ByteArray, (∃ n239 : Int, (∃ s118 : ByteArray, (∃ b69 : Bool, (∃ es122 : List (List FV), (∃ es123 : List (List FV), (∃ n240 : Int, (∃ n241 : Int, (((es5)[(Int.toNat i1)]? = (some [(FV.int .i64 n238), (FV.str s117), (FV.int .i64 n239), (FV.str s118), (FV.bool b69), (FV.sl 1 es122), (FV.sl 6 es123), (FV.int .i64 n240), (FV.int .i64 n241)])) ∧ (((0 : Int) ≤ i1) ∧ (∃ n242 : Int, (∃ s119 : ByteArray, (∃ n243 : Int, (∃ s120 : ByteArray, (∃ b70 : Bool, (∃ es124 : List (List FV), (∃ es125 : List (List FV), (∃ n244 : Int, (∃ n245 : Int, (((es1)[(Int.toNat i1)]? = (some [(FV.int .i64 n242), (FV.str s119), (FV.int .i64 n243), (FV.str s120), (FV.bool b70), (FV.sl 1 es124), (FV.sl 6 es125), (FV.int .i64 n244), (FV.int .i64 n245)])) ∧ ((((n241 != (IntKind.wrap .i64 (n245 + (((List.length o) : Nat) : Int)))) = true) → (R (TV.one (AV.fz (FV.bool false))) [])) ∧ (((n241 != (IntKind.wrap .i64 (n245 + (((List.length o) : Nat) : Int)))) = false) → (((0 : Int) ≤ i1) ∧ (∃ n246 : Int, (∃ s121 : ByteArray, (∃ n247 : Int, (∃ s122 : ByteArray, (∃ b71 : Bool, (∃ es126 : List (List FV), (∃ es127 : List (List FV), (∃ n248 : Int, (∃ n249 : Int, (((es5)[(Int.toNat i1)]? = (some [(FV.int .i64 n246), (FV.str s121), (FV.int .i64 n247), (FV.str s122), (FV.bool b71), (FV.sl 1 es126), (FV.sl 6 es127), (FV.int .i64 n248), (FV.int .i64 n249)])) ∧ (((0 : Int) ≤ i1) ∧ (∃ n250 : Int, (∃ s123 : ByteArray, (∃ n251 : Int, (∃ s124 : ByteArray, (∃ b72 : Bool, (∃ es128 : List (List FV), (∃ es129 : List (List FV), (∃ n252 : Int, (∃ n253 : Int, (((es1)[(Int.toNat i1)]? = (some [(FV.int .i64 n250), (FV.str s123), (FV.int .i64 n251), (FV.str s124), (FV.bool b72), (FV.sl 1 es128), (FV.sl 6 es129), (FV.int .i64 n252), (FV.int .i64 n253)])) ∧ (∃ b73 : Bool, ((Fn Tryd.prog 10 [(TV.agg [(AV.fz (FV.int .i64 n247)), (AV.fz (FV.str s122)), (AV.fz (FV.bool b71)), (AV.fz (FV.sl 1 es126)), (AV.fz (FV.sl 6 es127)), (AV.fz (FV.int .i64 n248))]), (TV.agg [(AV.fz (FV.int .i64 n251)), (AV.fz (FV.str s124)), (AV.fz (FV.bool b72)), (AV.fz (FV.sl 1 es128)), (AV.fz (FV.sl 6 es129)), (AV.fz (FV.int .i64 n252))])] [] (TV.one (AV.fz (FV.bool b73))) []) ∧ ((((Bool.not b73) = true) → (R (TV.one (AV.fz (FV.bool false))) [])) ∧ (((Bool.not b73) = false) → (law03_TokenBlanks_L1 R es1 n5 es5 (IntKind.wrap .i64 (i1 + 1)) o)))))))))))))))))))))))))))))))))))))))))))))))))))))))))))))))))))))))))))))))))))))))))))))))))))) ∧ (((decide (n5 ≤ n221)) = false) → (((0 : Int) ≤ i1) ∧ (∃ n254 : Int, (∃ s125 : ByteArray, (∃ n255 : Int, (∃ s126 : ByteArray, (∃ b74 : Bool, (∃ es130 : List (List FV), (∃ es131 : List (List FV), (∃ n256 : Int, (∃ n257 : Int, (((es5)[(Int.toNat i1)]? = (some [(FV.int .i64 n254), (FV.str s125), (FV.int .i64 n255), (FV.str s126), (FV.bool b74), (FV.sl 1 es130), (FV.sl 6 es131), (FV.int .i64 n256), (FV.int .i64 n257)])) ∧ (((0 : Int) ≤ i1) ∧ (∃ n258 : Int, (∃ s127 : ByteArray, (∃ n259 : Int, (∃ s128 : ByteArray, (∃ b75 : Bool, (∃ es132 : List (List FV), (∃ es133 : List (List FV), (∃ n260 : Int, (∃ n261 : Int, (((es1)[(Int.toNat i1)]? = (some [(FV.int .i64 n258), (FV.str s127), (FV.int .i64 n259), (FV.str s128), (FV.bool b75), (FV.sl 1 es132), (FV.sl 6 es133), (FV.int .i64 n260), (FV.int .i64 n261)])) ∧ ((((n254 != n258) = true) → (R (TV.one (AV.fz (FV.bool false))) [])) ∧ (((n254 != n258) = false) → (((0 : Int) ≤ i1) ∧ (∃ n262 : Int, (∃ s129 : ByteArray, (∃ n263 : Int, (∃ s130 : ByteArray, (∃ b76 : Bool, (∃ es134 : List (List FV), (∃ es135 : List (List FV), (∃ n264 : Int, (∃ n265 : Int, (((es5)[(Int.toNat i1)]? = (some [(FV.int .i64 n262), (FV.str s129), (FV.int .i64 n263), (FV.str s130), (FV.bool b76), (FV.sl 1 es134), (FV.sl 6 es135), (FV.int .i64 n264), (FV.int .i64 n265)])) ∧ (((0 : Int) ≤ i1) ∧ (∃ n266 : Int, (∃ s131 : ByteArray, (∃ n267 : Int, (∃ s132 : ByteArray, (∃ b77 : Bool, (∃ es136 : List (List FV), (∃ es137 : List (List FV), (∃ n268 : Int, (∃ n269 : Int, (((es1)[(Int.toNat i1)]? = (some [(FV.int .i64 n266), (FV.str s131), (FV.int .i64 n267), (FV.str s132), (FV.bool b77), (FV.sl 1 es136), (FV.sl 6 es137), (FV.int .i64 n268), (FV.int .i64 n269)])) ∧ ((((Bool.not ((ByteArray.toList s129) == (ByteArray.toList s131))) = true) → (R (TV.one (AV.fz (FV.bool false))) [])) ∧ (((Bool.not ((ByteArray.toList s129) == (ByteArray.toList s131))) = false) → (((0 : Int) ≤ i1) ∧ (∃ n270 : Int, (∃ s133 : ByteArray, (∃ n271 : Int, (∃ s134 : ByteArray, (∃ b78 : Bool, (∃ es138 : List (List FV), (∃ es139 : List (List FV), (∃ n272 : Int, (∃ n273 : Int, (((es5)[(Int.toNat i1)]? = (some [(FV.int .i64 n270), (FV.str s133), (FV.int .i64 n271), (FV.str s134), (FV.bool b78), (FV.sl 1 es138), (FV.sl 6 es139), (FV.int .i64 n272), (FV.int .i64 n273)])) ∧ (((0 : Int) ≤ i1) ∧ (∃ n274 : Int, (∃ s135 : ByteArray, (∃ n275 : Int, (∃ s136 : ByteArray, (∃ b79 : Bool, (∃ es140 : List (List FV), (∃ es141 : List (List FV), (∃ n276 : Int, (∃ n277 : Int, (((es1)[(Int.toNat i1)]? = (some [(FV.int .i64 n274), (FV.str s135), (FV.int .i64 n275), (FV.str s136), (FV.bool b79), (FV.sl 1 es140), (FV.sl 6 es141), (FV.int .i64 n276), (FV.int .i64 n277)])) ∧ ((((n273 != (IntKind.wrap .i64 (n277 + 0))) = true) → (R (TV.one (AV.fz (FV.bool false))) [])) ∧ (((n273 != (IntKind.wrap .i64 (n277 + 0))) = false) → (((0 : Int) ≤ i1) ∧ (∃ n278 : Int, (∃ s137 : ByteArray, (∃ n279 : Int, (∃ s138 : ByteArray, (∃ b80 : Bool, (∃ es142 : List (List FV), (∃ es143 : List (List FV), (∃ n280 : Int, (∃ n281 : Int, (((es5)[(Int.toNat i1)]? = (some [(FV.int .i64 n278), (FV.str s137), (FV.int .i64 n279), (FV.str s138), (FV.bool b80), (FV.sl 1 es142), (FV.sl 6 es143), (FV.int .i64 n280), (FV.int .i64 n281)])) ∧ (((0 : Int) ≤ i1) ∧ (∃ n282 : Int, (∃ s139 : ByteArray, (∃ n283 : Int, (∃ s140 : ByteArray, (∃ b81 : Bool, (∃ es144 : List (List FV), (∃ es145 : List (List FV), (∃ n284 : Int, (∃ n285 : Int, (((es1)[(Int.toNat i1)]? = (some [(FV.int .i64 n282), (FV.str s139), (FV.int .i64 n283), (FV.str s140), (FV.bool b81), (FV.sl 1 es144), (FV.sl 6 es145), (FV.int .i64 n284), (FV.int .i64 n285)])) ∧ (∃ b82 : Bool, ((Fn Tryd.prog 10 [(TV.agg [(AV.fz (FV.int .i64 n279)), (AV.fz (FV.str s138)), (AV.fz (FV.bool b80)), (AV.fz (FV.sl 1 es142)), (AV.fz (FV.sl 6 es143)), (AV.fz (FV.int .i64 n280))]), (TV.agg [(AV.fz (FV.int .i64 n283)), (AV.fz (FV.str s140)), (AV.fz (FV.bool b81)), (AV.fz (FV.sl 1 es144)), (AV.fz (FV.sl 6 es145)), (AV.fz (FV.int .i64 n284))])] [] (TV.one (AV.fz (FV.bool b82))) []) ∧ ((((Bool.not b82) = true) → (R (TV.one (AV.fz (FV.bool false))) [])) ∧ (((Bool.not b82) = false) → (law03_TokenBlanks_L1 R es1 n5 es5 (IntKind.wrap .i64 (i1 + 1)) o))))))))))))))))))))))))))))))))))))))))))))))))))))))))))))))))))))))))))))))))))))))))))))))))))))))))))))))))) ∧ (((decide (i1 < (((List.length es1) : Nat) : Int))) = false) → (R (TV.one (AV.fz (FV.bool true))) [])))
theorem law03_TokenBlanks_l1 {R : TV → List Ob → Prop} {es1 : List (List FV)} {n5 : Int} {es5 : List (List FV)} {i1 : Int} {o : List (List FV)} (h : law03_TokenBlanks_R1 R es1 n5 es5 i1 o) : law03_TokenBlanks_L1 R es1 n5 es5 i1 o :=
  LoopAt.by_tr (by kernel_rfl) (by kernel_rfl) h
def law03_TokenBlanks_H (R : TV → List Ob → Prop) (s : ByteArray) (at_ : Int) (comment : ByteArray) : Prop :=
  (∃ es112 : List (List FV), ((Fn Tryd.prog 7 [(TV.one (AV.fz (FV.str s)))] [] (TV.one (AV.ofl 1 0)) [(Ob.f 0 1 es112)]) ∧ (((((List.length ([] : List (List FV))) + (List.length es112)) * 8) ≤ 220000000000000) ∧ (∃ es113 : List (List FV), (∃ n218 : Int, (∃ n219 : Int, ((Fn Tryd.prog 8 [(TV.one (AV.fz (FV.sl 1 (([] : List (List FV)) ++ es112))))] [] (TV.tup [(false, [(AV.fz (FV.sl 9 es113))]), (false, [(AV.fz (FV.int .i64 n218))]), (false, [(AV.fz (FV.int .i64 n219))])]) []) ∧ (∃ b64 : Bool, ((Fn Tryd.prog 9 [] [] (TV.one (AV.fz (FV.bool b64))) []) ∧ ((((Bool.not b64) = true) → (∃ b65 : Bool, ((Fn Tryd.prog 9 [] [] (TV.one (AV.fz (FV.bool b65))) []) ∧ (R (TV.one (AV.fz (FV.bool b65))) [])))) ∧ (((Bool.not b64) = false) → ((((n219 != 0) = true) → (∃ b66 : Bool, ((Fn Tryd.prog 9 [] [] (TV.one (AV.fz (FV.bool b66))) []) ∧ (R (TV.one (AV.fz (FV.bool b66))) [])))) ∧ (((n219 != 0) = false) → (((((((List.length es113) : Nat) : Int) == 0) = true) → (∃ b67 : Bool, ((Fn Tryd.prog 9 [] [] (TV.one (AV.fz (FV.bool b67))) []) ∧ (R (TV.one (AV.fz (FV.bool b67))) [])))) ∧ ((((((List.length es113) : Nat) : Int) == 0) = false) → ((((decide ((5000 : Int) < (((List.length es112) : Nat) : Int))) = true) → (∃ b68 : Bool, ((Fn Tryd.prog 9 [] [] (TV.one (AV.fz (FV.bool b68))) []) ∧ (R (TV.one (AV.fz (FV.bool b68))) [])))) ∧ (((decide ((5000 : Int) < (((List.length es112) : Nat) : Int))) = false) → (law03_TokenBlanks_L0 R at_ comment es112 es113 0))))))))))))))))))
theorem law03_TokenBlanks_fn (s : ByteArray) (at_ : Int) (comment : ByteArray) {r : TV} {h : List Ob} (H : law03_TokenBlanks_H (fun r' h' => r' = r ∧ h' = h) s at_ comment) : Fn Tryd.prog 3 [(TV.one (AV.fz (FV.str s))), (TV.one (AV.fz (FV.int .u8 at_))), (TV.one (AV.fz (FV.str comment)))] [] r h :=
  Fn.by_tr (M := (modeOf [7] [])) (lv := law03_TokenBlanks_lv) (own := none) (F := Tryd.f3) (by kernel_rfl) (by kernel_rfl) (by first | decide | simp) (fun _ _ h => h) (by kernel_rfl) H
end Go.Proofs.YtejefchehdifhaaDoor.Ev
end
section
set_option linter.unusedVariables false
namespace Go.Proofs.YtejefchehdifhaaDoor.Ev
open Go
theorem mem_enc : ∀ {C : List Int} {c : Int}, c ∈ C → ∀ x ∈ utfB c, x ∈ enc C
  | d :: C, c, h, x, hx => by
    rw [enc_cons]
    rcases List.mem_cons.1 h with rfl | h
    · exact List.mem_append_left _ hx
    · exact List.mem_append_right _ (mem_enc h x hx)
theorem chL_ten {K : List Int} (hK : Bytes K) (h : ∀ x ∈ K, x ≠ 10) : (∀ c ∈ chL K, c ≠ 10) ∧ Scals (chL K) := by
  by_cases hm : (chars K).2 = -1
  · obtain ⟨e, hs⟩ := chars_back hK hm
    rw [chL_eq K hm]
    refine ⟨fun c hc he => ?_, hs⟩
    have := mem_enc hc 10 (by rw [he]; decide)
    rw [e] at this
    exact h 10 this rfl
  · have : chL K = [] := by unfold chL; rw [if_neg hm]
    rw [this]
    exact ⟨fun c hc => (by cases hc), fun c hc => (by cases hc)⟩
theorem wordsV_mono : ∀ (L : List Tok) (r : List Int) (p : Nat), wordsV r p = some L → ∀ (i j : Nat) (hi : i < j) (hj : j < L.length), (L[i]).at_ < (L[j]).at_
  | [], r, p, h, i, j, hi, hj => by simp at hj
  | t :: L, r, p, h, 0, 0, hi, hj => by omega
  | t :: L, r, p, h, 0, j + 1, hi, hj => by
    obtain ⟨w, R, x, h1, h2, h3, h4, h5, h6⟩ := wordsV_inv h
    have hpos := (nextS_len h3).1
    have hj' : j < L.length := by simpa using hj
    have := (wordsV_at L R _ h6 _ (List.getElem_mem hj')).1
    simp only [List.getElem_cons_zero, List.getElem_cons_succ]
    rw [h5]
    unfold Wd.tok
    simp only
    omega
  | t :: L, r, p, h, i + 1, 0, hi, hj => by omega
  | t :: L, r, p, h, i + 1, j + 1, hi, hj => by
    obtain ⟨w, R, x, h1, h2, h3, h4, h5, h6⟩ := wordsV_inv h
    simp only [List.getElem_cons_succ]
    exact wordsV_mono L R _ h6 i j (by omega) (by simpa using hj)
theorem same_at (k : Int) (t : ByteArray) (n : Bool) (l : List Int) (ds : List Dt) (a a' : Int) : (Dt.mk k t n l ds a).same (.mk k t n l ds a') = true := by
  have := same_self' (Dt.mk k t n l ds a)
  unfold Dt.same at this ⊢
  exact this
theorem law_TokenBlanks (xs : List TV) (h : TyAll Tryd.prog [9, 5, 9] xs) (hb : bulkA xs ≤ 1048576) : Fn Tryd.prog 3 xs [] (.one (.fz (.bool true))) [] := by
  cases h with
  | cons h1 h =>
  cases h with
  | cons h2 h =>
  cases h with
  | cons h3 h =>
  cases h
  obtain ⟨s, rfl, hs⟩ := tyV_str h1 Tryd.underlying9
  obtain ⟨T, hT, rfl⟩ : ∃ T, Bytes T ∧ s = bytesOf T := ⟨bs s, bs_bytes s, (of_bs s).symm⟩
  obtain ⟨n, rfl, n0, n1⟩ := tyV_int h2 Tryd.underlying5
  replace n0 : 0 ≤ n := n0
  replace n1 : n ≤ 255 := n1
  obtain ⟨s2, rfl, hs2⟩ := tyV_str h3 Tryd.underlying9
  obtain ⟨K, hK, rfl⟩ : ∃ T, Bytes T ∧ s2 = bytesOf T := ⟨bs s2, bs_bytes s2, (of_bs s2).symm⟩
  simp only [bulkA, TV.bulk, FV.bulk, size_of] at hb
  refine law03_TokenBlanks_fn _ _ _ ?_
  obtain ⟨R, hR, hRe⟩ := exR (fzB true); rw [hRe]; clear hRe
  have hcl := chL_len hT
  have hck := chL_len hK
  unfold law03_TokenBlanks_H
  refine ⟨_, charsO_ok T hT (by omega), by rw [ints_len, List.length_nil]; omega, ?_⟩
  rw [List.nil_append, ints_len]
  have hsv := scanV_ok (t := chL T) (by omega)
  refine ⟨_, _, _, tScan_ok _ (by omega), _, answers3_ok, fun h => absurd h (by decide), fun _ => ⟨fun _ => ⟨_, answers3_ok, hR⟩, fun he => ⟨fun _ => ⟨_, answers3_ok, hR⟩, fun hl0 => ⟨fun _ => ⟨_, answers3_ok, hR⟩, fun hl5 => ?_⟩⟩⟩⟩
  have he' : (scanV (chL T)).2.2 = 0 := by simpa using he
  obtain ⟨hsc, L, hL, hLe⟩ := scanV_inv he'
  rw [hLe] at hl0 hsv ⊢
  simp only [List.length_map] at hl0
  have hLne : L.length ≠ 0 := fun e => by rw [e] at hl0; simp at hl0
  have hlen : (chL T).length ≤ 5000 := by have := of_decide_eq_false hl5; omega
  obtain ⟨hLok, hLl⟩ := hsv
  simp only at hLok hLl
  generalize chL T = t at *
  clear h1 h2 h3 he he' hLe hl5 hT hs
  have fin : (∀ x ∈ K, x ≠ 10) → law03_TokenBlanks_L0 R n (bytesOf K) (ints .i64 t) (toks L) ((K.length : Nat) : Int) := by
    intro hno
    obtain ⟨c1, c2⟩ := chL_ten hK hno
    generalize hC : chL K = C at *
    refine law03_TokenBlanks_l0 ?_
    unfold law03_TokenBlanks_R0
    rw [size_of]
    refine ⟨fun h => absurd (of_decide_eq_true h) (by omega), fun _ => ?_⟩
    rw [List.length_map, w64 (n := n) (by omega) (by omega)]
    have tm : Int.tmod n (L.length : Int) = n % (L.length : Int) := Int.tmod_eq_emod_of_nonneg n0
    rw [tm]
    have hm0 := Int.emod_nonneg n (show (L.length : Int) ≠ 0 by omega)
    have hm1 := Int.emod_lt_of_pos n (show (0 : Int) < L.length by omega)
    obtain ⟨j, hj⟩ : ∃ j : Nat, (j : Int) = n % (L.length : Int) := ⟨(n % (L.length : Int)).toNat, by omega⟩
    rw [← hj] at hm0 hm1 ⊢
    have hjl : j < L.length := by omega
    obtain ⟨p0, hM⟩ := wordsV_more c1 j L t 0 hsc hL hjl
    have hin := (wordsV_at L t 0 hL _ (List.getElem_mem hjl)).2
    have hmono := wordsV_mono L t 0 hL
    have hg := tok_get hjl
    rw [Nat.sub_zero] at hM
    generalize hcut : (L[j]).at_ = cut at *
    have hg2 : ∃ k nm dk dt dn dl ds da, (toks L)[Int.toNat ((j : Nat) : Int)]? = some [FV.int .i64 k, .str nm, .int .i64 dk, .str dt, .bool dn, .sl 1 dl, .sl 6 ds, .int .i64 da, .int .i64 ((cut : Nat) : Int)] := by
      generalize L[j] = x at *
      obtain ⟨k, nm, ⟨dk, dt, dn, dl, ds, da⟩, a⟩ := x
      unfold Tok.row at hg
      simp only [Dt.row, List.cons_append, List.nil_append] at hg hcut
      subst hcut
      exact ⟨_, _, _, _, _, _, _, _, hg⟩
    obtain ⟨k, nm, dk, dt, dn, dl, ds, da, hg3⟩ := hg2
    have em : ([[FV.int .i64 32], [FV.int .i64 59]] ++ ints .i64 C) ++ [[FV.int .i64 10], [FV.int .i64 9]] = ints .i64 (moreT C) := by simp [moreT, ints]
    have hml := moreT_len C
    have hCO := charsO_ok K hK (by omega)
    rw [hC] at hCO
    refine ⟨by omega, by omega, _, _, _, _, _, _, _, _, _, hg3, _, hCO, by rw [ints_len]; simp only [List.length_cons, List.length_nil]; omega, ?_⟩
    rw [em, Int.toNat_natCast, ints_take, ints_drop, List.nil_append, ints_len, ints_len, ints_len, ints_app, ints_app, ints_len, ints_len, List.append_assoc]
    have hsl : Scals (t.take cut ++ (moreT C ++ t.drop cut)) := by
      intro c hc
      rcases List.mem_append.1 hc with hc | hc
      · exact hsc c (List.mem_of_mem_take hc)
      · rcases List.mem_append.1 hc with hc | hc
        · unfold moreT at hc
          simp only [List.mem_cons, List.mem_append, List.not_mem_nil, or_false] at hc
          rcases hc with rfl | rfl | hc | rfl | rfl
          · decide
          · decide
          · exact c2 c hc
          · decide
          · decide
        · exact hsc c (List.mem_of_mem_drop hc)
    have hll : (t.take cut ++ (moreT C ++ t.drop cut)).length ≤ 4000000 := by simp; omega
    have hS := tScan_ok _ hll
    have hMok := scanV_ok hll
    rw [scanV_words hsl hM] at hS hMok
    obtain ⟨hMok, _⟩ := hMok
    simp only at hMok
    refine ⟨by simp only [List.length_append, List.length_cons, List.length_nil, ints_len]; omega, ⟨by omega, by omega⟩, by simp only [List.length_nil, List.length_take]; omega, by simp only [List.length_take]; omega, ⟨by omega, by omega⟩, by simp only [List.length_append, List.length_take, List.length_drop]; omega, _, _, _, hS, fun h => absurd h (by simp), fun _ => ⟨fun h => absurd h ?_, fun _ => ?_⟩⟩
    · simp
      omega
    have loop : ∀ (m i : Nat), L.length - i = m → law03_TokenBlanks_L1 R (toks L) ((cut : Nat) : Int) (toks (L.take j ++ (L.drop j).map (Tok.sh (moreT C).length))) i (ints .i64 (moreT C)) := by
      intro m
      induction m with
      | zero =>
        intro i hi
        refine law03_TokenBlanks_l1 ?_
        unfold law03_TokenBlanks_R1
        rw [List.length_map]
        exact ⟨fun h => absurd (of_decide_eq_true h) (by omega), fun _ => hR⟩
      | succ m ih =>
        intro i hi
        have hlt : i < L.length := by omega
        have hgL := tok_get hlt
        have hlM : (L.take j ++ (L.drop j).map (Tok.sh (moreT C).length)).length = L.length := by simp; omega
        have hgM := tok_get (l := L.take j ++ (L.drop j).map (Tok.sh (moreT C).length)) (j := i) (by omega)
        have hok := hMok _ (List.getElem_mem (show i < (L.take j ++ (L.drop j).map (Tok.sh (moreT C).length)).length by omega))
        have hx : (L.take j ++ (L.drop j).map (Tok.sh (moreT C).length))[i]'(by omega) = if i < j then L[i] else (L[i]).sh (moreT C).length := by
          by_cases hij : i < j
          · rw [if_pos hij, List.getElem_append_left (by simp; omega), List.getElem_take]
          · rw [if_neg hij, List.getElem_append_right (by simp; omega), List.getElem_map, List.getElem_drop]
            congr 2
            simp
            omega
        have hposs : i < j → (L[i]).at_ < cut := fun h => by rw [← hcut]; exact hmono i j h hjl
        have hposs2 : ¬ i < j → cut ≤ (L[i]).at_ := fun h => by
          by_cases e : i = j
          · subst e; omega
          · rw [← hcut]; exact Nat.le_of_lt (hmono j i (by omega) hlt)
        have hinn := (wordsV_at L t 0 hL _ (List.getElem_mem hlt)).2
        rw [hx] at hgM hok
        generalize L[i] = x at *
        obtain ⟨k, nm, ⟨dk, dt, dn, dl, dds, da⟩, a⟩ := x
        unfold TokOk at hok
        refine law03_TokenBlanks_l1 ?_
        unfold law03_TokenBlanks_R1
        rw [List.length_map, ints_len]
        rw [w64 (n := (i : Int) + 1) (by omega) (by omega)]
        simp only at hposs hposs2 hinn
        refine ⟨fun _ => ?_, fun h => absurd (of_decide_eq_false h) (by omega)⟩
        by_cases hij : i < j
        · rw [if_pos hij] at hgM hok
          have hS := rSame_ok _ (Dt.mk dk dt dn dl dds da) hok
          rw [same_self'] at hS
          unfold Tok.row at hgL hgM
          unfold fzD at hS
          simp only [Dt.row, List.map_cons, List.map_nil, List.cons_append, List.nil_append] at hgL hgM hS
          refine ⟨by omega, _, _, _, _, _, _, _, _, _, hgL, fun h => absurd (of_decide_eq_true h) (by have := hposs hij; omega), fun _ => ⟨by omega, _, _, _, _, _, _, _, _, _, hgM, by omega, _, _, _, _, _, _, _, _, _, hgL, fun h => absurd h (by simp), fun _ => ⟨by omega, _, _, _, _, _, _, _, _, _, hgM, by omega, _, _, _, _, _, _, _, _, _, hgL, fun h => absurd h (by simp), fun _ => ⟨by omega, _, _, _, _, _, _, _, _, _, hgM, by omega, _, _, _, _, _, _, _, _, _, hgL, fun h => absurd h ?_, fun _ => ⟨by omega, _, _, _, _, _, _, _, _, _, hgM, by omega, _, _, _, _, _, _, _, _, _, hgL, _, hS, fun h => absurd h (by decide), fun _ => ih (i + 1) (by omega)⟩⟩⟩⟩⟩
          rw [w64 (by omega) (by omega)]
          simp
        · rw [if_neg hij] at hgM hok
          have hS := rSame_ok _ (Dt.mk dk dt dn dl dds da) hok
          unfold Tok.sh at hS hgM
          rw [same_at] at hS
          unfold Tok.row at hgL hgM
          unfold fzD at hS
          simp only [Dt.row, List.map_cons, List.map_nil, List.cons_append, List.nil_append] at hgL hgM hS
          refine ⟨by omega, _, _, _, _, _, _, _, _, _, hgL, fun _ => ⟨by omega, _, _, _, _, _, _, _, _, _, hgM, by omega, _, _, _, _, _, _, _, _, _, hgL, fun h => absurd h (by simp), fun _ => ⟨by omega, _, _, _, _, _, _, _, _, _, hgM, by omega, _, _, _, _, _, _, _, _, _, hgL, fun h => absurd h (by simp), fun _ => ⟨by omega, _, _, _, _, _, _, _, _, _, hgM, by omega, _, _, _, _, _, _, _, _, _, hgL, fun h => absurd h ?_, fun _ => ⟨by omega, _, _, _, _, _, _, _, _, _, hgM, by omega, _, _, _, _, _, _, _, _, _, hgL, _, hS, fun h => absurd h (by decide), fun _ => ih (i + 1) (by omega)⟩⟩⟩⟩, fun h => absurd (of_decide_eq_false h) (by have := hposs2 hij; omega)⟩
          rw [w64 (by omega) (by omega)]
          simp
    exact loop _ 0 rfl
  have start : ∀ (m i : Nat), K.length - i = m → i ≤ K.length → (∀ j, j < i → rd K j ≠ 10) → law03_TokenBlanks_L0 R n (bytesOf K) (ints .i64 t) (toks L) i := by
    intro m
    induction m with
    | zero =>
      intro i hi hle hno
      have : i = K.length := by omega
      subst this
      refine fin (fun x hx => ?_)
      obtain ⟨j, hj, rfl⟩ := List.getElem_of_mem hx
      rw [← rd_at K j hj]
      exact hno j hj
    | succ m ih =>
      intro i hi hle hno
      have hlt : i < K.length := by omega
      obtain ⟨c, hc, hcv⟩ := byte_at hK hlt
      refine law03_TokenBlanks_l0 ?_
      unfold law03_TokenBlanks_R0
      rw [size_of]
      refine ⟨fun _ => ⟨by omega, c, by rw [Int.toNat_natCast]; exact hc, fun _ => hR, fun hx => ?_⟩, fun h => absurd (of_decide_eq_false h) (by omega)⟩
      rw [hcv] at hx
      rw [w64 (by omega) (by omega)]
      refine ih (i + 1) (by omega) (by omega) (fun j hj => ?_)
      by_cases e : j = i
      · rw [e]; simpa using hx
      · exact hno j (by omega)
  exact start _ 0 rfl (Nat.zero_le _) (fun j hj => by omega)
end Go.Proofs.YtejefchehdifhaaDoor.Ev
end
section
set_option linter.unusedVariables false
namespace Go.Proofs.YtejefchehdifhaaDoor.tokenBlanks
open Go.ChangeShapes Go.WideShapes Go.ChangeAt Go.RowKit Go.Joins
open Go.Proofs.YtejefchehdifhaaDoor.Ev (Ty TyAll TabAt Glob tabs closedB openedAll trodAll_below tabAt_ints_of tabAt_ifc_of tabAt_flat_of law_TokenBlanks returnsIn_upto witness_upto)
theorem own : ownKnob Tryd.prog.godebug = none := by kernel_rfl
theorem laidOut : laidOutB Tryd.prog = true := by kernel_rfl
set_option maxRecDepth 100000 in
theorem door_met (os : Os) (args : Array Value) : laidMetH Tryd.prog Rows.tokenBlanksUptoRow.laid ((World.laidAll Tryd.prog os Rows.tokenBlanksUptoRow.laid).forCall (fun _ _ => 0) ⟨#[], args, []⟩).memory :=
  Eq.mp (show laidMet Tryd.prog Rows.tokenBlanksUptoRow.laid ((World.laidAll Tryd.prog os Rows.tokenBlanksUptoRow.laid).forCall (fun _ _ => 0) ⟨#[], args, []⟩).memory = laidMetH Tryd.prog Rows.tokenBlanksUptoRow.laid ((World.laidAll Tryd.prog os Rows.tokenBlanksUptoRow.laid).forCall (fun _ _ => 0) ⟨#[], args, []⟩).memory by kernel_rfl) (laidMet_laidAll (os := os) args (by kernel_rfl) (by kernel_rfl))
set_option maxRecDepth 100000 in
theorem glob {W : World} (hL : laidMetH Tryd.prog Rows.tokenBlanksUptoRow.laid W) : Glob W := by
  have hM : laidMet Tryd.prog Rows.tokenBlanksUptoRow.laid W := Eq.mp (by kernel_rfl) hL
  intro x hx
  simp only [tabs, List.mem_cons, List.mem_nil_iff, or_false] at hx
  rcases hx with rfl | rfl | rfl | rfl | rfl | rfl | rfl
  · exact tabAt_flat_of (n := "marginalia/token.signs") (d := Rows.laid_marginalia_token_signs) (fs := [Go.Proofs.YtejefchehdifhaaDoor.Ev.FV.str (ByteArray.mk #[35, 44, 64]), Go.Proofs.YtejefchehdifhaaDoor.Ev.FV.int .i64 6, Go.Proofs.YtejefchehdifhaaDoor.Ev.FV.str (ByteArray.mk #[117, 110, 115, 121, 110, 116, 97, 120, 45, 115, 112, 108, 105, 99, 105, 110, 103]), Go.Proofs.YtejefchehdifhaaDoor.Ev.FV.str (ByteArray.mk #[35, 40]), Go.Proofs.YtejefchehdifhaaDoor.Ev.FV.int .i64 3, Go.Proofs.YtejefchehdifhaaDoor.Ev.FV.str (ByteArray.mk #[]), Go.Proofs.YtejefchehdifhaaDoor.Ev.FV.str (ByteArray.mk #[35, 59]), Go.Proofs.YtejefchehdifhaaDoor.Ev.FV.int .i64 5, Go.Proofs.YtejefchehdifhaaDoor.Ev.FV.str (ByteArray.mk #[]), Go.Proofs.YtejefchehdifhaaDoor.Ev.FV.str (ByteArray.mk #[35, 39]), Go.Proofs.YtejefchehdifhaaDoor.Ev.FV.int .i64 6, Go.Proofs.YtejefchehdifhaaDoor.Ev.FV.str (ByteArray.mk #[115, 121, 110, 116, 97, 120]), Go.Proofs.YtejefchehdifhaaDoor.Ev.FV.str (ByteArray.mk #[35, 96]), Go.Proofs.YtejefchehdifhaaDoor.Ev.FV.int .i64 6, Go.Proofs.YtejefchehdifhaaDoor.Ev.FV.str (ByteArray.mk #[113, 117, 97, 115, 105, 115, 121, 110, 116, 97, 120]), Go.Proofs.YtejefchehdifhaaDoor.Ev.FV.str (ByteArray.mk #[35, 44]), Go.Proofs.YtejefchehdifhaaDoor.Ev.FV.int .i64 6, Go.Proofs.YtejefchehdifhaaDoor.Ev.FV.str (ByteArray.mk #[117, 110, 115, 121, 110, 116, 97, 120]), Go.Proofs.YtejefchehdifhaaDoor.Ev.FV.str (ByteArray.mk #[44, 64]), Go.Proofs.YtejefchehdifhaaDoor.Ev.FV.int .i64 6, Go.Proofs.YtejefchehdifhaaDoor.Ev.FV.str (ByteArray.mk #[117, 110, 113, 117, 111, 116, 101, 45, 115, 112, 108, 105, 99, 105, 110, 103]), Go.Proofs.YtejefchehdifhaaDoor.Ev.FV.str (ByteArray.mk #[40]), Go.Proofs.YtejefchehdifhaaDoor.Ev.FV.int .i64 1, Go.Proofs.YtejefchehdifhaaDoor.Ev.FV.str (ByteArray.mk #[]), Go.Proofs.YtejefchehdifhaaDoor.Ev.FV.str (ByteArray.mk #[41]), Go.Proofs.YtejefchehdifhaaDoor.Ev.FV.int .i64 2, Go.Proofs.YtejefchehdifhaaDoor.Ev.FV.str (ByteArray.mk #[]), Go.Proofs.YtejefchehdifhaaDoor.Ev.FV.str (ByteArray.mk #[39]), Go.Proofs.YtejefchehdifhaaDoor.Ev.FV.int .i64 6, Go.Proofs.YtejefchehdifhaaDoor.Ev.FV.str (ByteArray.mk #[113, 117, 111, 116, 101]), Go.Proofs.YtejefchehdifhaaDoor.Ev.FV.str (ByteArray.mk #[96]), Go.Proofs.YtejefchehdifhaaDoor.Ev.FV.int .i64 6, Go.Proofs.YtejefchehdifhaaDoor.Ev.FV.str (ByteArray.mk #[113, 117, 97, 115, 105, 113, 117, 111, 116, 101]), Go.Proofs.YtejefchehdifhaaDoor.Ev.FV.str (ByteArray.mk #[44]), Go.Proofs.YtejefchehdifhaaDoor.Ev.FV.int .i64 6, Go.Proofs.YtejefchehdifhaaDoor.Ev.FV.str (ByteArray.mk #[117, 110, 113, 117, 111, 116, 101])]) (m := 8) hM (by kernel_rfl) (List.mem_of_getElem? (i := 7) (by kernel_rfl)) (g := 0) (t := 75) (by kernel_rfl) (by kernel_rfl) (by kernel_rfl)
  · exact tabAt_flat_of (n := "unicode/utf8.first") (d := Rows.laid_unicode_utf8_first) (fs := (List.range 256).map fun c => Go.Proofs.YtejefchehdifhaaDoor.Ev.FV.int .u8 ((Go.Lib.firstT c : Nat) : Int)) (m := 8) hM (by kernel_rfl) (List.mem_of_getElem? (i := 8) (by kernel_rfl)) (g := 1) (t := 114) (by kernel_rfl) (by kernel_rfl) (by kernel_rfl)
  · exact tabAt_flat_of (n := "unicode/utf8.acceptRanges") (d := Rows.laid_unicode_utf8_acceptRanges) (fs := ((List.range 16).map fun i => [Go.Proofs.YtejefchehdifhaaDoor.Ev.FV.int .u8 ((Go.Lib.accLo i : Nat) : Int), Go.Proofs.YtejefchehdifhaaDoor.Ev.FV.int .u8 ((Go.Lib.accHi i : Nat) : Int)]).flatten) (m := 8) hM (by kernel_rfl) (List.mem_of_getElem? (i := 3) (by kernel_rfl)) (g := 2) (t := 118) (by kernel_rfl) (by kernel_rfl) (by kernel_rfl)
  · exact tabAt_flat_of (n := "marginalia/utf.names") (d := Rows.laid_marginalia_utf_names) (fs := [Go.Proofs.YtejefchehdifhaaDoor.Ev.FV.int .i64 32, Go.Proofs.YtejefchehdifhaaDoor.Ev.FV.str (ByteArray.mk #[115, 112, 97, 99, 101]), Go.Proofs.YtejefchehdifhaaDoor.Ev.FV.int .i64 10, Go.Proofs.YtejefchehdifhaaDoor.Ev.FV.str (ByteArray.mk #[110, 101, 119, 108, 105, 110, 101]), Go.Proofs.YtejefchehdifhaaDoor.Ev.FV.int .i64 9, Go.Proofs.YtejefchehdifhaaDoor.Ev.FV.str (ByteArray.mk #[116, 97, 98]), Go.Proofs.YtejefchehdifhaaDoor.Ev.FV.int .i64 13, Go.Proofs.YtejefchehdifhaaDoor.Ev.FV.str (ByteArray.mk #[114, 101, 116, 117, 114, 110]), Go.Proofs.YtejefchehdifhaaDoor.Ev.FV.int .i64 0, Go.Proofs.YtejefchehdifhaaDoor.Ev.FV.str (ByteArray.mk #[110, 117, 108, 108]), Go.Proofs.YtejefchehdifhaaDoor.Ev.FV.int .i64 127, Go.Proofs.YtejefchehdifhaaDoor.Ev.FV.str (ByteArray.mk #[100, 101, 108, 101, 116, 101])]) (m := 8) hM (by kernel_rfl) (List.mem_of_getElem? (i := 6) (by kernel_rfl)) (g := 3) (t := 122) (by kernel_rfl) (by kernel_rfl) (by kernel_rfl)
  · exact tabAt_ifc_of (n := "strconv.ErrSyntax") (d := Rows.laid_strconv_ErrSyntax) hM (by kernel_rfl) (List.mem_of_getElem? (i := 5) (by kernel_rfl)) (g := 4) (t := 81) (by kernel_rfl) (by kernel_rfl) Tryd.underlying81
  · exact tabAt_ifc_of (n := "strconv.ErrRange") (d := Rows.laid_strconv_ErrRange) hM (by kernel_rfl) (List.mem_of_getElem? (i := 4) (by kernel_rfl)) (g := 5) (t := 81) (by kernel_rfl) (by kernel_rfl) Tryd.underlying81
  · exact tabAt_flat_of (n := "internal/strconv.uint64pow10") (d := Rows.laid_internal_strconv_uint64pow10) (fs := (List.range 20).map fun i => Go.Proofs.YtejefchehdifhaaDoor.Ev.FV.int .u64 ((10 ^ i : Nat) : Int)) (m := 8) hM (by kernel_rfl) (List.mem_of_getElem? (i := 2) (by kernel_rfl)) (g := 7) (t := 144) (by kernel_rfl) (by kernel_rfl) (by kernel_rfl)
set_option maxRecDepth 100000 in
theorem lifted (os : Os) (started : os.Started) (H : Type) (enc : TypeId × Value → H) :
    ReturnsInHanded {} Tryd.checked os 3 .any (fun w args => ((Rows.OpenSpec.upto Rows.tokenBlanksSpec).pre enc Tryd.prog Tryd.f3 Rows.tokenBlanksUptoRow.domain false w args ∧ laidMetH Tryd.prog Rows.tokenBlanksUptoRow.laid w) ∧ sizedMet enc Tryd.prog Tryd.f3 (Rows.OpenSpec.upto Rows.tokenBlanksSpec) false w args)
      (Rows.tokenBlanksSpec.post enc Tryd.prog Tryd.f3 false true false false) := by
  refine returnsIn_upto (C := Tryd.checked) (X := fun w _ => laidMetH Tryd.prog Rows.tokenBlanksUptoRow.laid w) (fun _ _ _ hh h => h.of_heap hh) own started (by kernel_rfl) Tryd.func3
    (witness_upto (enc := enc) (C := Tryd.checked) (os := os) (s := Rows.tokenBlanksSpec) (X := fun w _ => laidMetH Tryd.prog Rows.tokenBlanksUptoRow.laid w) (World.laidAll Tryd.prog os Rows.tokenBlanksUptoRow.laid) #[.string ByteArray.empty, .int .u8 0, .string ByteArray.empty] 8 (World.laidAll_os _ _ _) (World.shaped_of_ZipB (by kernel_rfl) (by kernel_rfl)) (by kernel_rfl) (by kernel_rfl) (by kernel_rfl) (door_met os _)) ?_
  intro W base args ds gs before hval0 hW hcnd hbk hsz0 hL
  have hsz : (DataW.weightsEach Tryd.prog (Tryd.f3.params.toList ++ Rows.tokenBlanksSpec.plain.varTypes Tryd.prog) (ds ++ gs)).all (· ≤ reachBytes) = true := hsz0
  have hval : ∀ (j : Nat) t v, Tryd.f3.params[j]? = some t → args[j]? = some v → Value.okWide Tryd.prog W .any base t v := hval0
  have hW' := hW
  obtain ⟨p, q, hA0, hV, rfl, hfz, hnd⟩ := hW
  have hA : DataW.TrodAll enc Tryd.prog W 0 (fun _ => true) true Tryd.f3.params.toList args.toList ds p := hA0
  rw [Tryd.params3] at hA hval hsz
  obtain ⟨rfl, rfl⟩ := trodVars_none hV
  have hA2 := hA
  obtain ⟨v0, vs0, d0, ds0, p0, q0, hargs, rfl, rfl, h0_, r0⟩ := trodAll_cons hA2
  obtain ⟨v1, vs1, d1, ds1, p1, q1, rfl, rfl, rfl, h1_, r1⟩ := trodAll_cons r0
  obtain ⟨v2, vs2, d2, ds2, p2, q2, rfl, rfl, rfl, h2_, r2⟩ := trodAll_cons r1
  obtain ⟨rfl, rfl, rfl⟩ := trodAll_nil r2
  obtain ⟨xs, h1, h2, h3, hb⟩ := openedAll (S := [9, 5]) (ts := [9, 5, 9]) (by kernel_rfl) (by decide) (fun j t v ht hv => hval j t v (by simpa using ht) (by simpa using hv)) hA (fun m hm => by simpa using List.all_eq_true.1 hsz m hm)
  refine ((law_TokenBlanks xs h1 (Nat.le_trans hb hbk)).door (glob hL) (by simpa using h2) (fun i x hx => by obtain ⟨v, hv, hr⟩ := h3 i x hx; exact ⟨v, by simpa using hv, hr⟩)).mono fun e W' ⟨he, bel⟩ => ?_
  subst he
  exact ⟨_, rfl, _, _, _, [], _, [], hW', trodAll_mk1 (shut_bool Tryd.underlying4 _), trodAll_below laidOut bel (ts := [9, 5, 9]) (by decide +kernel) hA, rfl, bel.frame _, fun h => by cases h⟩
theorem over : Rows.tokenBlanksUptoRow.holds Tryd.pinned (Rows.OpenSpec.upto Rows.tokenBlanksSpec) :=
  OpenClaim.holds_of_cond 3 Tryd.f3 rfl rfl rfl rfl rfl rfl rfl ⟨rfl, rfl, rfl, rfl, rfl⟩ rfl rfl rfl rfl rfl (by kernel_rfl) Tryd.func3 (by kernel_rfl)
    (of_decide_eq_true (by kernel_rfl)) (by unfold Func.isWrapper; first | (rw [if_pos (by decide +kernel)]; kernel_rfl) | (rw [if_neg (by decide +kernel)]; exact ⟨rfl, rfl⟩))
    (fun os started H enc _ _ => lifted os started H enc)
theorem proved : Rows.TokenBlanksUptoCardSaid :=
  Claim7.holds_tied_plain_at .later [] [.data, .data, .data, .data, .sentinel, .sentinel, .data, .data, .pinned] true (true, "1082c8195d53d4c379180013bf5bbf77daab47af34830393639ba355cb98f386") true
    over (fun _ h => by cases h) (by kernel_rfl) (fun _ h => by cases h) tokenBlanksUpto_row_tie rfl ⟨rfl, rfl⟩ (by kernel_rfl) rfl
    (fun f fn hf hfn => by
      obtain rfl : f = 3 := Option.some.inj ((show Tryd.prog.funcNamed "marginalia/marginalialaw03.TokenBlanks" = some 3 by kernel_rfl).symm.trans hf) |>.symm
      obtain rfl : fn = Tryd.f3 := (Option.some.inj (Tryd.func3.symm.trans hfn)).symm
      exact ⟨by kernel_rfl, fun j t ht => by
        rw [Tryd.params3] at ht
        have hm : t ∈ [9, 5, 9] := by simpa using Array.mem_of_getElem? ht
        have hall : ([9, 5, 9].all fun u => !Tryd.prog.wantsStandIn u) = true := by kernel_rfl
        exact (show Tryd.prog.wantsStandIn t = false by simpa using List.all_eq_true.1 hall t hm)⟩)
    (by kernel_rfl)
end Go.Proofs.YtejefchehdifhaaDoor.tokenBlanks
namespace Go.Proofs.YtejefchehdifhaaDoor
theorem tokenBlanksUpto_holds : Rows.TokenBlanksUptoCardSaid := tokenBlanks.proved
end Go.Proofs.YtejefchehdifhaaDoor
end
