/- ip4.Get as a function of bytes. -/
import Derived.Test.YtejmipoolbodgaaPIp4G
namespace Go.Proofs.Ytejmipoolbodgaa.G
open Go.Proofs.Ytejmipoolbodgaa.Pal
def ip4_Get.f (s : ByteArray) : Option (Int × Int × Int × Int × Int × Bool × Bool × ByteArray × ByteArray × ByteArray × ByteArray × Int) :=
  if s.size ≤ 140737488351232 then some (if ip4Err s = 0 then (((be (bl (s.extract 1 2)) : Nat) : Int), ((be (bl (s.extract 4 6)) : Nat) : Int), ((be (bl (s.extract 6 8)) % 8192 : Nat) : Int), ((be (bl (s.extract 8 9)) : Nat) : Int), ((be (bl (s.extract 9 10)) : Nat) : Int), (be (bl (s.extract 6 8)) / 16384 % 2 == 1), (be (bl (s.extract 6 8)) / 8192 % 2 == 1), s.extract 12 16, s.extract 16 20, s.extract 20 (hl4 s), s.extract (hl4 s) s.size, 0) else (0, 0, 0, 0, 0, false, false, ⟨#[]⟩, ⟨#[]⟩, ⟨#[]⟩, ⟨#[]⟩, ip4Err s)) else none
end Go.Proofs.Ytejmipoolbodgaa.G
