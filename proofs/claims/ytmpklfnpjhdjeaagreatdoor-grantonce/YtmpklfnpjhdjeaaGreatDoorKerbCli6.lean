/- Chapters 10, 18, 20: the answer of a service, and what a client makes of it. -/
import Derived.Test.YtmpklfnpjhdjeaaGreatDoorKerbCli3
namespace Kerb
open Go Go.Abs
set_option linter.unusedVariables false
def encodeAns (s:Bytes) (li:Bool):Enc :=
 if 1012<s.length then ⟨[],105⟩ else ⟨header 8 li++putN s.length 2 li++s,0⟩
structure DecAns where
 val:Bytes
 little:Bool
 err:Int
def nextSum (n:Int):Int:=(n+1) % 4294967296
def serviceAnswer (session checksum time tick:Int) (li:Bool):Enc :=
 if (encodeMutual ⟨nextSum checksum,tick,time⟩ li).err≠0 then ⟨[],(encodeMutual ⟨nextSum checksum,tick,time⟩ li).err⟩
 else if (makeBox 4 session (encodeMutual ⟨nextSum checksum,tick,time⟩ li).val).err≠0 then ⟨[],(makeBox 4 session (encodeMutual ⟨nextSum checksum,tick,time⟩ li).val).err⟩
 else encodeAns (makeBox 4 session (encodeMutual ⟨nextSum checksum,tick,time⟩ li).val).val li
structure GotAns where
 c:Client
 err:Int
end Kerb
