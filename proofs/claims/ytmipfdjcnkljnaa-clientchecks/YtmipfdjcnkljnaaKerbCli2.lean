/- Clients: what the statements of chapter 20 lean on. -/
import Derived.Test.YtmipfdjcnkljnaaKerbCli
namespace Kerb
open Go Go.Abs
set_option linter.unusedVariables false
theorem longP_len {p:Prin} (h:longP p=false):p.name.length≤100∧p.inst.length≤100∧p.realm.length≤100:=by
 unfold longP at h
 simp only [Bool.or_eq_false_iff,decide_eq_false_iff_not] at h
 omega
theorem raw_good {m1 m2 m3 o1 o2 o3 w1 w2 w3:Bytes} {ad sk:Int} {li:Bool} {ds:List Cred} {wt se tm lf cs tc:Int} (hok:∀ c∈ds,c.ok)
  (hl:(decide ((20:Nat)<(ds.map Cred.av).length)||(longP ⟨m1,m2,m3⟩||(longP ⟨w1,w2,w3⟩||longP ⟨o1,o2,o3⟩)))=false) :
  Client.good ⟨⟨m1,m2,m3⟩,ad,sk,li,⟨⟨o1,o2,o3⟩,ds⟩,wt,⟨w1,w2,w3⟩,se,tm,lf,cs,tc⟩:=by
 simp only [Bool.or_eq_false_iff,decide_eq_false_iff_not,List.length_map] at hl
 obtain ⟨h1,h2,h3,h4⟩:=hl
 have g1:=longP_len h2
 have g2:=longP_len h4
 simp only at g1 g2
 exact ⟨by simp only;omega,by simp only;omega,hok,by simp only;omega⟩
theorem good_lenT {c:Client} (h:c.good):decide ((c.cache.creds.map Cred.av).length≤1000000)=true:=by simpa using h.2.2.2
end Kerb
