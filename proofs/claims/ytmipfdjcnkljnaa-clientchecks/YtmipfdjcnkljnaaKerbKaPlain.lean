/- Chapter 22: what is written is read as it was. -/
import Derived.Test.YtmipfdjcnkljnaaKerbKa
namespace Kerb
open Go Go.Abs
set_option linter.unusedVariables false
theorem within_iff {n m:Int}:within n m=true↔0≤n∧n≤m:=by simp [within]
theorem tmod_u8 (x:UInt8) (k:Nat) (hk:0<k):Int.toNat (Int.tmod (x.toNat:Int) (k:Int))=x.toNat % k:=by
 rw [Int.tmod_eq_emod_of_nonneg (by omega)];omega
theorem wrap_u8i (x:UInt8):IntKind.wrap .i64 (x.toNat:Int)=u8i x:=by
 have:=x.toNat_lt
 unfold u8i;exact wrap_i64 (by omega) (by omega)
theorem u8i_bd (x:UInt8):0≤u8i x∧u8i x≤255:=by
 have:=x.toNat_lt
 unfold u8i;omega
theorem session_bd2 (n:Int):0≤session n∧session n<18446744073709551616:=by
 unfold session;rw [wrap_u64];omega
end Kerb
