/- tcp.Check, tcp.Put, tcp.Get as functions of numbers and bytes. No program in it. -/
import Derived.Test.YtejmipoolbodgaaPTcpF
import Derived.Test.YtejmipoolbodgaaPNum
import Derived.Test.YtejmipoolbodgaaHWireW
import Derived.Test.YtejmipoolbodgaaHUdp
namespace Go.Proofs.Ytejmipoolbodgaa.G
open Go.Proofs.Ytejmipoolbodgaa.Pal
set_option linter.unusedVariables false
def tcpOk (src dst flags win urg : Int) (opt : ByteArray) : Prop := in16 src ∧ in16 dst ∧ in16 win ∧ in16 urg ∧ (0 ≤ flags ∧ flags ≤ 255) ∧ opt.size ≤ 40 ∧ opt.size % 4 = 0
instance (src dst flags win urg : Int) (opt : ByteArray) : Decidable (tcpOk src dst flags win urg opt) := by unfold tcpOk; infer_instance
def tcpCheck (src dst flags win urg : Int) (opt : ByteArray) : Int := if tcpOk src dst flags win urg opt then 0 else 1
theorem tcpCheck_ok {src dst flags win urg : Int} {opt : ByteArray} (h : tcpCheck src dst flags win urg opt = 0) : in16 src ∧ in16 dst ∧ in16 win ∧ in16 urg ∧ (0 ≤ flags ∧ flags ≤ 255) ∧ opt.size ≤ 40 ∧ opt.size % 4 = 0 := by
  unfold tcpCheck at h
  split at h
  · rename_i h2; exact h2
  · exact absurd h (by decide)
def tcp_Check.f (a0_0 a0_1 a0_2 a0_3 a0_4 a0_5 a0_6 : Int) (a0_7 a0_8 : ByteArray) : Option Int := some (tcpCheck a0_0 a0_1 a0_4 a0_5 a0_6 a0_7)
/-- A segment's bytes. -/
def tcpBytes (src dst seq ack flags win urg : Int) (opt p : ByteArray) (sum : Int) : List UInt8 :=
  nb 2 (u64n src) ++ nb 2 (u64n dst) ++ nb 4 (u64n seq) ++ nb 4 (u64n ack) ++ nb 1 (u64n (((20 + opt.size) / 4 * 16 : Nat) : Int)) ++ nb 1 (u64n flags) ++ nb 2 (u64n win) ++ nb 2 (u64n sum) ++ nb 2 (u64n urg) ++ bl opt ++ bl p
def tcp_Put.f (a0_0 a0_1 a0_2 a0_3 a0_4 a0_5 a0_6 : Int) (a0_7 a0_8 : ByteArray) (a1 : Int) : Option (ByteArray × Int) :=
  if a0_8.size ≤ 140737488351232 ∧ (0 ≤ a0_2 ∧ a0_2 < 4294967296) ∧ (0 ≤ a0_3 ∧ a0_3 < 4294967296) then (if tcpCheck a0_0 a0_1 a0_4 a0_5 a0_6 a0_7 = 0 ∧ in16 a1 then some (⟨(tcpBytes a0_0 a0_1 a0_2 a0_3 a0_4 a0_5 a0_6 a0_7 a0_8 a1).toArray⟩, 0) else some (⟨#[]⟩, 1)) else none
/-- How long a segment's header says it is. -/
def ht (s : ByteArray) : Nat := be (bl (s.extract 12 13)) / 16 * 4
/-- With which error tcp.Get stops. -/
def tcpErr (s : ByteArray) : Int :=
  if s.size < 20 then 2 else if 20 ≤ ht s ∧ ht s ≤ s.size then (if be (bl (s.extract 12 13)) % 16 = 0 then (if rightO (bl (s.extract 20 (ht s))) = true then 0 else 4) else 9) else 4
def tcp_Get.f (s : ByteArray) : Option (Int × Int × Int × Int × Int × Int × Int × ByteArray × ByteArray × Int × Int) :=
  if s.size ≤ 140737488351232 then some (if tcpErr s = 0 then (((be (bl (s.extract 0 2)) : Nat) : Int), ((be (bl (s.extract 2 4)) : Nat) : Int), ((be (bl (s.extract 4 8)) : Nat) : Int), ((be (bl (s.extract 8 12)) : Nat) : Int), ((be (bl (s.extract 13 14)) : Nat) : Int), ((be (bl (s.extract 14 16)) : Nat) : Int), ((be (bl (s.extract 18 20)) : Nat) : Int), s.extract 20 (ht s), s.extract (ht s) s.size, ((be (bl (s.extract 16 18)) : Nat) : Int), 0) else (0, 0, 0, 0, 0, 0, 0, ⟨#[]⟩, ⟨#[]⟩, 0, tcpErr s)) else none
end Go.Proofs.Ytejmipoolbodgaa.G
