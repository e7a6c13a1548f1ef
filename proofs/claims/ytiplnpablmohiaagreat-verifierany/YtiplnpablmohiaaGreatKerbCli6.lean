/- Chapters 10, 18, 20: the answer of a service, and what a client makes of it. -/
import Derived.Test.YtiplnpablmohiaaGreatKerbCli3
namespace Kerb
open Go Go.Abs
set_option linter.unusedVariables false
def encodeAns (s:Bytes) (li:Bool):Enc :=
 if 1012<s.length then ⟨[],105⟩ else ⟨header 8 li++putN s.length 2 li++s,0⟩
structure DecAns where
 val:Bytes
 little:Bool
 err:Int
def nextSum (n:Int):Int:=(n+1) % 4294967296
theorem wrap_u32 (x:Int):IntKind.wrap .u32 x=x % 4294967296:=by
 simp [IntKind.wrap,IntKind.signed,IntKind.bits]
theorem nextSum_ref (n:Int):IntKind.wrap .i64 (Int.tmod (IntKind.wrap .u64 (IntKind.wrap .u64 n+1)) 4294967296)=nextSum n:=by
 rw [wrap_u64,wrap_u64,Int.tmod_eq_emod_of_nonneg (by omega),wrap_i64 (by omega) (by omega)]
 unfold nextSum
 omega
theorem nextSum_prog (n:Int):IntKind.wrap .i64 (IntKind.wrap .u32 (IntKind.wrap .u32 n+1))=nextSum n:=by
 rw [wrap_u32,wrap_u32,wrap_i64 (by omega) (by omega)]
 unfold nextSum
 omega
def serviceAnswer (session checksum time tick:Int) (li:Bool):Enc :=
 if (encodeMutual ⟨nextSum checksum,tick,time⟩ li).err≠0 then ⟨[],(encodeMutual ⟨nextSum checksum,tick,time⟩ li).err⟩
 else if (makeBox 4 session (encodeMutual ⟨nextSum checksum,tick,time⟩ li).val).err≠0 then ⟨[],(makeBox 4 session (encodeMutual ⟨nextSum checksum,tick,time⟩ li).val).err⟩
 else encodeAns (makeBox 4 session (encodeMutual ⟨nextSum checksum,tick,time⟩ li).val).val li
structure GotAns where
 c:Client
 err:Int
end Kerb
