/- Chapter 20: clients stay without an error. -/
import Derived.Test.YtmipfdjcnkljnaaKerbCli3
namespace Kerb
open Go Go.Abs
set_option linter.unusedVariables false
theorem Prin.eqb_iff {p q:Prin}:p.eqb q=true↔p=q:=by
 constructor
 ·intro h
  obtain ⟨a,b,c⟩:=p
  obtain ⟨d,e,f⟩:=q
  simp only [Prin.eqb,Bool.and_eq_true,beq_iff_eq] at h
  obtain ⟨rfl,rfl,rfl⟩:=h
  rfl
 ·rintro rfl;exact Prin.eqb_refl p
theorem Prin.eqb_false {p q:Prin}:p.eqb q=false↔p≠q:=by
 rw [← Bool.not_eq_true,Prin.eqb_iff]
instance:DecidableEq Prin:=fun p q=>if h:p.eqb q=true then isTrue (Prin.eqb_iff.1 h) else isFalse fun g=>h (Prin.eqb_iff.2 g)
theorem credsErr_iff:∀ {seen cs:List Cred},credsErr seen cs=0↔(∀ c∈cs,credErr c=0)∧(∀ c∈cs,∀ d∈seen,d.service≠c.service)∧cs.Pairwise (fun a b=>a.service≠b.service)
 | seen,[]=>by simp [credsErr]
 | seen,c::r=>by
  have ih:=credsErr_iff (seen:=seen++[c]) (cs:=r)
  rw [credsErr]
  by_cases h1:credErr c=0
  case neg =>
   rw [if_pos h1]
   exact ⟨fun h=>absurd h h1,fun h=>absurd (h.1 c (List.mem_cons_self ..)) h1⟩
  rw [if_neg (by simpa using h1)]
  by_cases h2:seen.any (fun d=>d.service.eqb c.service)=true
  ·rw [if_pos h2]
   constructor
   ·intro h;cases h
   ·intro h
    rw [List.any_eq_true] at h2
    obtain ⟨d,hd,he⟩:=h2
    exact absurd (Prin.eqb_iff.1 he) (h.2.1 c (List.mem_cons_self ..) d hd)
  ·rw [if_neg h2,ih]
   have h3:∀ d∈seen,d.service≠c.service:=fun d hd he=>h2 (List.any_eq_true.2 ⟨d,hd,Prin.eqb_iff.2 he⟩)
   constructor
   ·rintro ⟨a,b,p⟩
    refine ⟨?_,?_,?_⟩
    ·intro x hx
     rcases List.mem_cons.1 hx with rfl | hx
     ·exact h1
     ·exact a x hx
    ·intro x hx d hd
     rcases List.mem_cons.1 hx with rfl | hx
     ·exact h3 d hd
     ·exact b x hx d (List.mem_append_left _ hd)
    ·exact List.pairwise_cons.2 ⟨fun x hx=>b x hx c (List.mem_append_right _ (List.mem_singleton.2 rfl)),p⟩
   ·rintro ⟨a,b,p⟩
    have p':=List.pairwise_cons.1 p
    refine ⟨fun x hx=>a x (List.mem_cons_of_mem _ hx),?_,p'.2⟩
    intro x hx d hd
    rcases List.mem_append.1 hd with hd | hd
    ·exact b x (List.mem_cons_of_mem _ hx) d hd
    ·rw [List.mem_singleton.1 hd];exact p'.1 x hx
theorem cacheErr_iff {c:Cache}:c.err=0↔c.owner.valid=true∧c.creds.length≤20∧credsErr [] c.creds=0:=by
 unfold Cache.err
 cases h:c.owner.valid
 ·simp
 by_cases h2:20<c.creds.length
 ·simp [h2];omega
 ·simp [h2];intro _;omega
theorem clientErr_iff {c:Client}:c.err=0↔c.me.valid=true∧(within c.address 4294967295&&within c.skew 4294967295)=true∧(0≤c.wait∧c.wait≤3)∧c.cache.err=0∧c.cache.owner=c.me:=by
 unfold Client.err
 cases h:c.me.valid
 ·simp
 cases h1:(within c.address 4294967295&&within c.skew 4294967295)
 ·simp
 by_cases h2:0≤c.wait∧c.wait≤3
 case neg =>
  rw [if_neg (by simp),if_neg (by simp),if_pos (by simp;omega)]
  simp [h2]
 by_cases h3:c.cache.err=0
 case neg=>simp [h2,h3]
 cases h4:c.cache.owner.eqb c.me
 ·have:=Prin.eqb_false.1 h4
  simp [h2,h3,this]
 ·have:=Prin.eqb_iff.1 h4
  simp [h2,h3,this]
theorem nodup_le {α:Type} [DecidableEq α]:∀ {l m:List α},l.Pairwise (· ≠ ·)→(∀ x∈l,x∈m)→l.length≤m.length
 | [],m,_,_=>Nat.zero_le _
 | x::r,m,hp,hs=>by
  have hp:=List.pairwise_cons.1 hp
  have hx:=hs x (List.mem_cons_self ..)
  have ih:=nodup_le (l:=r) (m:=m.erase x) hp.2 (fun y hy=>(List.mem_erase_of_ne (hp.1 y hy).symm).2 (hs y (List.mem_cons_of_mem _ hy)))
  rw [List.length_erase_of_mem hx] at ih
  have:=List.length_pos_of_mem hx
  simp only [List.length_cons]
  omega
def services:List Prin:=[service 0,service 1,service 2,service 3,service 4,service 5,service 6,service 7,service 8]
theorem below9 {n:Int} (h0:0≤n) (h1:n<9):n=0∨n=1∨n=2∨n=3∨n=4∨n=5∨n=6∨n=7∨n=8:=by omega
theorem service_mem {n:Int} (h0:0≤n) (h1:n<9):service n∈services:=by
 rcases below9 h0 h1 with rfl | rfl | rfl | rfl | rfl | rfl | rfl | rfl | rfl<;>simp [services]
theorem service_valid {n:Int} (h0:0≤n) (h1:n<9):(service n).valid=true:=by
 rcases below9 h0 h1 with rfl | rfl | rfl | rfl | rfl | rfl | rfl | rfl | rfl<;>decide +kernel
theorem session_valid {n:Int} (h0:0≤n) (h1:n<9):keyValid (session n)=true:=by
 rcases below9 h0 h1 with rfl | rfl | rfl | rfl | rfl | rfl | rfl | rfl | rfl<;>decide +kernel
theorem user_valid (n:Int):(user n).valid=true:=by
 unfold user realm
 split
 ·split
  ·decide +kernel
  split<;>decide +kernel
 split
 ·split
  ·decide +kernel
  split<;>decide +kernel
 ·split
  ·decide +kernel
  split<;>decide +kernel
theorem next_in9 (l:Bytes) (p:Int):0≤next l p 9∧next l p 9<9:=by
 have:=next_bd l p 9;omega
theorem tick_len (l:Bytes):∀ (n:Nat) (i p:Int) (t:Bytes),(t.length:Int)≤i→i≤30→((tickLoop l n i p t).1.length:Int)≤30
 | 0,i,p,t,h,h2=>by simp only [tickLoop];omega
 | n+1,i,p,t,h,h2=>by
  rw [tickLoop]
  split
  ·rename_i g
   have b:=next_bd l p 30
   exact tick_len l n _ _ _ (by simp;omega) (by omega)
  ·simp only;omega
theorem dataCred_err (l:Bytes) (p:Int):credErr (dataCred l p)=0:=by
 have h1:=next_in9 l p
 have h2:=next_in9 l (cp1 l p)
 have h3:=next_bd l (cp2 l p) 256
 have h4:=next_bd l (cp3 l p) 256
 have h5:=next_bd l (cp4 l p) 256
 have h6:((dataTick l p).1.length:Int)≤30:=tick_len l _ 0 _ [] (by simp) (by decide)
 unfold credErr
 have w1:within (dataCred l p).life 255=true:=within_iff.2 ⟨by show 0≤next l (cp2 l p) 256;omega,by show next l (cp2 l p) 256≤255;omega⟩
 have w2:within (dataCred l p).kvno 255=true:=within_iff.2 ⟨by show 0≤next l (cp3 l p) 256;omega,by show next l (cp3 l p) 256≤255;omega⟩
 have w3:within (dataCred l p).issued 4294967295=true:=within_iff.2 ⟨by show 0≤next l (cp4 l p) 256*100;omega,by show next l (cp4 l p) 256*100≤_;omega⟩
 rw [show (dataCred l p).service.valid=true from service_valid h1.1 h1.2,show keyValid (dataCred l p).session=true from session_valid h2.1 h2.2,w1,w2,w3]
 have h7:¬ 255<(dataCred l p).ticket.length:=by show ¬ 255<(dataTick l p).1.length;omega
 simp [h7]
theorem cacheLoop_err (l:Bytes):∀ (n:Nat) (p:Int) (cs:List Cred),(∀ c∈cs,credErr c=0)∧cs.Pairwise (fun a b=>a.service≠b.service)∧(∀ c∈cs,c.service∈services) →
  (∀ c∈cacheLoop l n p cs,credErr c=0)∧(cacheLoop l n p cs).Pairwise (fun a b=>a.service≠b.service)∧(∀ c∈cacheLoop l n p cs,c.service∈services)
 | 0,p,cs,h=>h
 | n+1,p,cs,h=>by
  rw [cacheLoop]
  split
  ·split
   ·exact cacheLoop_err l n _ _ h
   ·rename_i g
    refine cacheLoop_err l n _ _ ⟨?_,?_,?_⟩
    ·intro c hc
     rcases List.mem_append.1 hc with hc | hc
     ·exact h.1 c hc
     ·rw [List.mem_singleton.1 hc];exact dataCred_err l p
    ·refine List.pairwise_append.2 ⟨h.2.1,List.pairwise_singleton _ _,fun a ha b hb=> ?_⟩
     rw [List.mem_singleton.1 hb]
     exact fun he=>g (List.any_eq_true.2 ⟨a,ha,Prin.eqb_iff.2 he⟩)
    ·intro c hc
     rcases List.mem_append.1 hc with hc | hc
     ·exact h.2.2 c hc
     ·rw [List.mem_singleton.1 hc]
      have:=next_in9 l p
      exact service_mem this.1 this.2
  ·exact h
theorem dataCache_err (l:Bytes) (n:Int):(dataCache l n).err=0:=by
 have h:=cacheLoop_err l (l.length+1) 0 [] ⟨fun _ h=>(by cases h),List.Pairwise.nil,fun _ h=>(by cases h)⟩
 refine cacheErr_iff.2 ⟨user_valid n,?_,credsErr_iff.2 ⟨h.1,fun _ _ _ hd=>(by cases hd),h.2.1⟩⟩
 have:=nodup_le (l:=(cacheLoop l (l.length+1) 0 []).map (·.service)) (m:=services) (List.pairwise_map.2 h.2.1) (fun x hx=>by
  obtain ⟨c,hc,rfl⟩:=List.mem_map.1 hx
  exact h.2.2 c hc)
 simp only [List.length_map] at this
 have e:services.length=9:=rfl
 show (cacheLoop l (l.length+1) 0 []).length≤20
 omega
theorem person_is (who skew:UInt8) (little:Bool) (l:Bytes):personClient who skew little l=⟨user (u8i who),u8i who,u8i skew*4,little,dataCache (l.take 300) (u8i who),0,noPrin,0,0,0,0,0⟩:=by
 have h1:=u8i_bd who
 have h2:=u8i_bd skew
 unfold personClient newClient
 rw [user_valid,within_iff.2 (show 0≤u8i who∧u8i who≤4294967295 by omega),within_iff.2 (show 0≤u8i skew*4∧u8i skew*4≤4294967295 by omega)]
 rfl
theorem person_err (who skew:UInt8) (little:Bool) (l:Bytes):(personClient who skew little l).err=0:=by
 have h1:=u8i_bd who
 have h2:=u8i_bd skew
 rw [person_is]
 refine clientErr_iff.2 ⟨user_valid _,?_,⟨show (0:Int)≤0 by decide,show (0:Int)≤3 by decide⟩,dataCache_err _ _,rfl⟩
 show (within (u8i who) 4294967295&&within (u8i skew*4) 4294967295)=true
 rw [within_iff.2 (show 0≤u8i who∧u8i who≤4294967295 by omega),within_iff.2 (show 0≤u8i skew*4∧u8i skew*4≤4294967295 by omega)]
 rfl
theorem Cache.same_refl (c:Cache):c.same c=true:=by simp [Cache.same,Prin.eqb_refl,sameCreds_refl]
end Kerb
