/- Chapter 20: what a client sends is decoded as what it was made of. -/
import Derived.Test.YtmipfdjcnkljnaaGreatKerbVerL
namespace Kerb
open Go Go.Abs
set_option linter.unusedVariables false
theorem getCred_is {l:List Cred} {s:Prin} (h:(getCred l s).2=true):(getCred l s).1.service=s:=by
 unfold getCred at h ⊢
 split at h
 ·rename_i hlt
  rw [if_pos hlt]
  dsimp only
  have:=List.findIdx_getElem (p:=fun d:Cred=>d.service.eqb s) (xs:=l) (w:=hlt)
  simp only [List.getD_eq_getElem?_getD]
  unfold credAt at hlt ⊢
  rw [List.getElem?_eq_getElem hlt]
  exact Prin.eqb_iff.1 this
 ·cases h
theorem live_is {l:List Cred} {s:Prin} {now:Int} (h:(liveCred l s now).err=0):(liveCred l s now).val.service=s:=by
 unfold liveCred at h ⊢
 split at h
 ·cases h
 rename_i h1
 rw [if_neg h1]
 split at h
 ·cases h
 rename_i h2
 rw [if_neg h2]
 exact getCred_is (by simpa using h1)
theorem sealAuth_back {a:Auth} {l:Bool} {k:Int} (hk:0≤k∧k<18446744073709551616) (h:(sealAuth a l k).err=0):openAuth (sealAuth a l k).val l k=⟨a,0⟩:=by
 unfold sealAuth at h ⊢
 by_cases he:(encodeAuth a l).err=0
 case neg=>rw [if_pos he] at h;exact absurd h he
 rw [if_neg (by simpa using he)] at h ⊢
 unfold openAuth
 rw [openBox_back hk.1 hk.2 h,decodeAuth_back he,if_neg (by simp),if_neg (by simp)]
theorem makes_no {c:Client} {s:Prin} {m:Bool} {sum now tick:Int} (h:(present c s m sum now tick).err≠0):(present c s m sum now tick).msg=[]∧(present c s m sum now tick).auth=[]:=by
 unfold present at h ⊢
 split
 ·exact ⟨rfl,rfl⟩
 rename_i h1
 rw [if_neg h1] at h
 split
 ·exact ⟨rfl,rfl⟩
 rename_i h2
 rw [if_neg h2] at h
 split
 ·exact ⟨rfl,rfl⟩
 rename_i h3
 rw [if_neg h3] at h
 dsimp only at h ⊢
 split
 ·exact ⟨rfl,rfl⟩
 rename_i h4
 rw [if_neg h4] at h
 split
 ·exact ⟨rfl,rfl⟩
 rename_i h5
 rw [if_neg h5] at h
 split
 ·exact ⟨rfl,rfl⟩
 rename_i h6
 rw [if_neg h6] at h
 exact absurd rfl h
structure Made (c:Client) (s:Prin) (m:Bool) (sum now tick:Int) (O:Sent) (R:ApRequest):Prop where
 dec:decodeAp O.msg=⟨R,0⟩
 opens:openAuth R.auth R.little O.cred.session=⟨⟨c.me,sum,tick,now⟩,0⟩
 mtl:R.mutual_=m
 realm:R.realm=s.realm
 kvno:R.kvno=O.cred.kvno
 tkt:R.ticket=O.cred.ticket
 auth:R.auth=O.auth
 service:O.cred.service=s
 len:O.msg.length≤140737488355328∧R.auth.length≤140737488355328
theorem makes {c:Client} {s:Prin} {m:Bool} {sum now tick:Int} (hc:c.good) (h:(present c s m sum now tick).err=0):∃ R,Made c s m sum now tick (present c s m sum now tick) R:=by
 obtain ⟨O,hO⟩:∃ O,present c s m sum now tick=O:=⟨_,rfl⟩
 rw [hO] at h ⊢
 unfold present at hO
 by_cases h1:c.err=0
 case neg=>rw [if_pos h1] at hO;rw [← hO] at h;cases h
 rw [if_neg (by simpa using h1)] at hO
 by_cases h2:s.valid=true
 case neg=>rw [if_pos (by simpa using h2)] at hO;rw [← hO] at h;cases h
 rw [if_neg (by simp [h2])] at hO
 by_cases h3:(within now 4294967295&&within tick 199&&within sum 4294967295)=true
 case neg=>rw [if_pos (by rw [Bool.not_eq_true] at h3;rw [h3];rfl)] at hO;rw [← hO] at h;cases h
 rw [if_neg (by rw [h3];simp)] at hO
 dsimp only at hO
 by_cases h4:(liveCred c.cache.creds s now).err=0
 case neg=>rw [if_pos h4] at hO;rw [← hO] at h;exact absurd h h4
 rw [if_neg (by simpa using h4)] at hO
 obtain ⟨x,hx⟩:∃ x,(liveCred c.cache.creds s now).val=x:=⟨_,rfl⟩
 have hs:=live_is h4
 have hok:=live_ok hc.2.2.1 s now
 rw [hx] at hO hs hok
 by_cases h5:(sealAuth ⟨c.me,sum,tick,now⟩ c.little x.session).err=0
 case neg =>
  have:apOf c x m ⟨c.me,sum,tick,now⟩=⟨noAp,(sealAuth ⟨c.me,sum,tick,now⟩ c.little x.session).err⟩:=by unfold apOf;rw [if_pos h5]
  rw [this,if_pos h5] at hO;rw [← hO] at h;exact absurd h h5
 have ha:apOf c x m ⟨c.me,sum,tick,now⟩=⟨⟨c.little,m,x.kvno,x.service.realm,x.ticket,(sealAuth ⟨c.me,sum,tick,now⟩ c.little x.session).val⟩,0⟩:=by unfold apOf;rw [if_neg (by simpa using h5)]
 rw [ha,if_neg (by simp)] at hO
 dsimp only at hO
 obtain ⟨R,hR⟩:∃ R,ApRequest.mk c.little m x.kvno x.service.realm x.ticket (sealAuth ⟨c.me,sum,tick,now⟩ c.little x.session).val=R:=⟨_,rfl⟩
 have hsl:=sealAuth_len ⟨c.me,sum,tick,now⟩ c.little x.session
 have hback:=sealAuth_back ⟨hok.2.2.2.1,hok.2.2.2.2.1⟩ h5
 rw [hR] at hO
 by_cases h6:(encodeAp R).err=0
 case neg=>rw [if_pos h6] at hO;rw [← hO] at h;exact absurd h h6
 rw [if_neg (by simpa using h6)] at hO
 have hal:=ap_len R
 refine ⟨R,?_⟩
 rw [← hO]
 constructor
 ·exact decodeAp_back h6
 ·rw [← hR];exact hback
 ·rw [← hR]
 ·rw [← hR,← hs]
 ·rw [← hR]
 ·rw [← hR]
 ·rw [← hR]
 ·exact hs
 ·have e:R.auth.length≤162:=by rw [← hR];exact hsl
  dsimp only
  omega
end Kerb
