/- FollowChecks: the closed run that the law ends in, in parts: its text, parsed. Conditions: none but those that each theorem names. -/
import Derived.Test.YtnlijejfagjbeaaGreatDoorProg
import Derived.KernelRfl
import Derived.Test.YtnlijejfagjbeaaGreatDoorVmC

namespace Go.Proofs.YtnlijejfagjbeaaGreatDoor
set_option maxRecDepth 1000000
open Go Go.Vm
/-- math/bits' table -/
def bitsN : List Int := [0, 1, 56, 2, 57, 49, 28, 3, 61, 58, 42, 50, 38, 29, 17, 4, 62, 47, 59, 36, 45, 43, 51, 22, 53, 39, 33, 30, 24, 18, 12, 5, 63, 55, 48, 27, 60, 41, 37, 16, 46, 35, 44, 21, 52, 32, 23, 11, 54, 26, 40, 15, 34, 20, 31, 10, 25, 14, 19, 9, 13, 8, 7, 6]
def bitsT : List V := bitsN.map (V.int .u8)
/-- the listed errors' variables -/
def ks : List Nat := [4, 2, 5, 6, 7, 8, 9, 1, 10, 11, 12, 0, 13, 14, 15, 16]
def glw : Nat → Nat → Option V := glT 287 ks [(3, bitsT)]
/-- lists that live in the heap -/
def uqw (e : TypeId) : Bool := Nat.beq e 92 || Nat.beq e 65 || Nat.beq e 63
/-- the text, what is parsed of it, what is read -/
def rdA : List V := [(.str [114, 117, 108, 101, 32, 34, 97, 34, 63, 32, 61, 62, 32, 120, 10, 114, 117, 108, 101, 32, 34, 98, 34, 32, 47, 32, 34, 99, 34, 32, 61, 62, 32, 121])]
def psV : V := (.tup [(.agg [.snil, .snil, (.sl 26 [(.agg [(.int .i64 (0)), (.bool false), .snil, (.int .i64 (7)), (.int .i64 (8)), (.int .u64 (0)), (.int .u64 (0)), (.int .u64 (0)), (.int .u64 (0)), (.str []), (.int .i64 (0)), (.int .i64 (1)), (.sl 10 [(.agg [(.int .i64 (3)), (.int .i64 (5)), (.int .u64 (0)), (.int .u64 (0)), (.int .u64 (0)), (.int .u64 (0)), (.str [97]), (.int .i64 (0)), (.int .i64 (0)), .snil])] .no), (.bool false), (.int .i64 (0)), (.int .i64 (0)), (.int .u64 (0)), (.int .u64 (0)), (.int .u64 (0)), (.int .u64 (0)), (.str []), (.int .i64 (0)), (.int .i64 (0)), .snil, (.str [120]), .snil]), (.agg [(.int .i64 (15)), (.bool false), .snil, (.int .i64 (3)), (.int .i64 (20)), (.int .u64 (0)), (.int .u64 (0)), (.int .u64 (0)), (.int .u64 (0)), (.str [98]), (.int .i64 (0)), (.int .i64 (0)), .snil, (.bool true), (.int .i64 (3)), (.int .i64 (26)), (.int .u64 (0)), (.int .u64 (0)), (.int .u64 (0)), (.int .u64 (0)), (.str [99]), (.int .i64 (0)), (.int .i64 (0)), .snil, (.str [121]), .snil])] .no)]), .nili])
def rdV : V := (.sl 21 [(.agg [(.int .i64 (7)), (.int .i64 (0)), (.int .u64 (0)), (.int .u64 (0)), (.int .u64 (0)), (.int .u64 (0)), (.str []), (.int .i64 (0)), (.int .i64 (1)), (.sl 10 [(.agg [(.int .i64 (2)), (.int .i64 (0)), (.int .u64 (0)), (.int .u64 (8589934592)), (.int .u64 (0)), (.int .u64 (0)), (.str []), (.int .i64 (0)), (.int .i64 (0)), .snil])] .no), (.bool false), (.int .i64 (0)), (.int .i64 (0)), (.int .u64 (0)), (.int .u64 (0)), (.int .u64 (0)), (.int .u64 (0)), (.str []), (.int .i64 (0)), (.int .i64 (0)), .snil]), (.agg [(.int .i64 (2)), (.int .i64 (0)), (.int .u64 (0)), (.int .u64 (17179869184)), (.int .u64 (0)), (.int .u64 (0)), (.str []), (.int .i64 (0)), (.int .i64 (0)), .snil, (.bool true), (.int .i64 (2)), (.int .i64 (0)), (.int .u64 (0)), (.int .u64 (34359738368)), (.int .u64 (0)), (.int .u64 (0)), (.str []), (.int .i64 (0)), (.int .i64 (0)), .snil])] .no)
def hooks1 : Hooks := [(26, rdA, psV)]
def hooks2 : Hooks := [(18, rdA, rdV)]
theorem parse_run (n : Nat) : callA Tryz.prog { g := glw, hk := hkOf [], uq := uqw } (n + 60) 26 rdA ⟨[], []⟩ = some (.ret psV, ⟨[], []⟩) := by kernel_rfl
end Go.Proofs.YtnlijejfagjbeaaGreatDoor
