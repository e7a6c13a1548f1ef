/- What the functions of this seat compute. -/
import Derived.Test.YteafbgcimcpfiaaGreatWalk3
set_option linter.all false
open Go.IntKind renaming i64->AI,u64->AT
open Go.Abs.AV renaming int->Zz,bool->Zx,str->Zu,bs->Zq,u8->Zm,aQ->Yz,agg->Yu,sl->Yq,ptr->Yg,aw->Xy,aH->Xw,bY->Xq,fR->Xg,bR->Xm,cR->Wv
open Option renaming bind->Zy,some->Zp
open List renaming length->Zw,append->Yy
open Go.IntKind renaming wrap->Zv,i64->Zb
open Bool renaming and_eq_true->Zj,not_true->Zf,false->Yw,true->Yj,and_self->Yb
open Decidable renaming decide->Zk
open Prod renaming snd->Zd,fst->Zg
open Kerb renaming within->Zn,ai->Zh,ar->Yx,aj->Yv,aJ->Yk,iw->Ym,aY->Yh,eo->Xx,aM->Xv,header->Xk,nn->Xp,s6->Xd,back->Xb,la->Xn,qX->Xh,dQ->Wz,bF->Wy,validName->Ww,kn->Wu,jE->Wq,swp_size->Wj
open Nat renaming le_trans->Yp
open UInt8 renaming toNat->Yd
open Int renaming toNat->Yf,tdiv->Xu,eq_ofNat_of_zero_le->Xj,tmod->Xf,toNat_natCast->Wp
open Kerb.Client renaming av->Yn
open Kerb.Cache renaming av->Xz
open Sum renaming inl->Wx
namespace Go.Proofs.YteafbgcimcpfiaaGreat
open Go Go.Abs Go.Proofs
set_option maxRecDepth 100000
theorem w52:Wk 52 6 RS:=by
 refine cw Tryz.func52 λ_ _ _ h=> ?_;unfold RS at h;split at h;case h_2=>cases h
 rename_i b;obtain⟨ay,rfl⟩:=dg h;refine c6 (let t1:AV:=Yu [Zx Yw,Zx Yw,Zz AI 0,Zu [],Zq [],Zq [],Zz AI 0,Zz AI 0,Zu [],Zu []];let t0:Option (AV×aO):=Zp (Yz [t1,Zz AI 100],[]);aE (!Zd (Xv b [3])==0) (Zp (Yz [t1,Zz AI (Zd (Xv b [3]))],[])) (Zy (iH [Yg 0 0] [(0,[Zq b,Zz AI 2,Zx (Zg (Xv b [3])),Zx Yw])]) λr=>aC (Zd r) λx dj=>aW x λbW dr=>ag AI dr λn dH=>aq dH λeg eK=>aq eK λeG fL=>ak fL (aD dj (Xy AI (Zg r) λbf=>Zy (o0 [Yg 0 0] [(0,[Zq bW,Zz AI n,Zx eg,Zx eG])]) λr=>aC (Zd r) λx f_=>aW x λfG g7=>ag AI g7 λn iA=>aq iA λgG io=>aq io λh_ dA=>ak dA (aD f_ (AV.fK (Zg r) λgY=>Zy (iH [Yg 0 0] [(0,[Zq fG,Zz AI n,Zx gG,Zx h_])]) λr=>aC (Zd r) λx eC=>aW x λjH eD=>ag AI eD λn fl=>aq fl λj7 fz=>aq fz λfF fA=>ak fA (aD eC (Xy AI (Zg r) λbL=>Zy (iH [Yg 0 0] [(0,[Zq jH,Zz AI n,Zx j7,Zx fF])]) λr=>aC (Zd r) λx fS=>aW x λfM im=>ag AI im λn iS=>aq iS λgB iT=>aq iT λgf iU=>ak iU (aD fS (Xy AI (Zg r) λdm=>Zy (gA [Yg 0 0,Zz AI bL] [(0,[Zq fM,Zz AI n,Zx gB,Zx gf])]) λr=>aC (Zd r) λx lN=>aW x λhO lO=>ag AI lO λn lP=>aq lP λiL lQ=>aq lQ λiE nu=>ak nu (aD lN (AV.cS (Zg r) λiZ=>Zy (gA [Yg 0 0,Zz AI dm] [(0,[Zq hO,Zz AI n,Zx iL,Zx iE])]) λr=>aC (Zd r) λx nv=>aW x λhU nw=>ag AI nw λn ny=>aq ny λjo nz=>aq nz λj6 nA=>ak nA (aD nv (AV.cS (Zg r) λkJ=>Zy (jk [Yg 0 0] [(0,[Zq hU,Zz AI n,Zx jo,Zx j6])]) λr=>aC (Zd r) λx qg=>aW x λlJ qh=>ag AI qh λn qi=>aq qi λlq rh=>aq rh λnW ri=>ak ri (aD qg (Xy AI (Zg r) λbU=>Zy (iH [Yg 0 0] [(0,[Zq lJ,Zz AI n,Zx lq,Zx nW])]) λr=>aC (Zd r) λx sX=>aW x λnK wU=>ag AI wU λn wV=>aq wV λmN wW=>aq wW λoD zK=>ak zK (aD sX (Xy AI (Zg r) λbO=>Zy (o0 [Yg 0 0] [(0,[Zq nK,Zz AI n,Zx mN,Zx oD])]) λr=>aC (Zd r) λx F_=>aW x λqt F'=>ag AI F' λn Qw=>aq Qw λsq Qx=>aq Qx λpJ Qy=>ak Qy (aD F_ (AV.fK (Zg r) λss=>Zy (o0 [Yg 0 0] [(0,[Zq qt,Zz AI n,Zx sq,Zx pJ])]) λr=>aC (Zd r) λx ad2=>aW x λA_ ad3=>ag AI ad3 λn ad4=>aq ad4 λGW ad5=>aq ad5 λAv ad6=>ak ad6 (aD ad2 (AV.fK (Zg r) λGX=>let t2:AV:=Yu [Zx (Zg (Xv b [3])),Zx Yw,Zz AI bf,Zu gY,Zq iZ,Zq kJ,Zz AI bU,Zz AI bO,Zu ss,Zu GX];Zy (RM [t2] []) (kT λvs=>aW vs λGY r=>ag AI r λn r=>ak r (aE Av t0 (aE (!n==0) t0 (aE (!GY==b) t0 (Zp (Yz [t2,Zz AI 0],[])))))))))))))))))))))))))))) ?_;delta kT;dsimp only[RM,jk,iH,gA,o0,aI,aW,aq,cO,ag,bH,dc];have hb:=Qa3 ay;have kf:Zk (b.length<=4611686018427387904)=Yj:=by simp;omega
 have e1:∀ p,Zk ((Kerb.text b p).val.length<=9223372036854775807)=Yj:=λp=>by have:=Kerb.fX b p;simp;omega
 unfold Kerb.ch;by_cases h:(Xv b [3]).2=0;case neg=>rw[af (by simpa using h),Qa1 h];rfl
 rw[ah (by simpa using h),Qa0 (by simpa using h)];simp only[ay,e1,↓A0,A0];rw[Kerb.Kb];exact Kerb.c9 (b:=b) (no:=Kerb.uL) (enc:=Kerb.cZ) (rd:=λb=>((Kerb.Ck b).val,(Kerb.Ck b).bad)) _ _ rfl (λx e=>(Yz [.agg [.bool (x).ap.By,.bool (x).ap.c7,.int AI (x).ap.bt,.str (x).ap.aK,.bs (x).ap.aG,.bs (x).ap.ft,.int AI (x).time,.int AI (x).bS,.str (x).service,.str (x).inst],Zz Zb e],([]:aO)))
theorem w75:Wk 75 6 R4:=by
 refine cw Tryz.func75 λ_ _ _ h=> ?_;unfold R4 at h;split at h;case h_2=>cases h
 rename_i b;obtain⟨ay,rfl⟩:=dg h;refine c6 (let t0:Option (AV×aO):=Zp (Yz [Yu [Zu [],Zz AI 0,Zz AI 0,Zz AI 0,Zz AT 0],Zz AI 100],[]);Zy (tC [Yg 0 0,Zz AI 4] [(0,[Zq b,Zz AI 0,Zx Yw])]) λr=>aC (Zd r) λx dj=>aW x λbW dr=>ag AI dr λn dH=>aq dH λeg eK=>ak eK (aD dj (AV.cS (Zg r) λeG=>Zy (ve [Yg 0 0] [(0,[Zq bW,Zz AI n,Zx eg])]) λr=>aC (Zd r) λx fL=>aW x λfG f_=>ag AI f_ λn g7=>aq g7 λgG iA=>ak iA (aD fL (Xy AI (Zg r) λbf=>aE (Kerb.jG eG) (Zy (ve [Yg 0 0] [(0,[Zq fG,Zz AI n,Zx gG])]) λr=>aC (Zd r) λx io=>aW x λh_ dA=>ag AI dA λn eC=>aq eC λgY eD=>ak eD (aD io (Xy AI (Zg r) λbL=>Zy (ve [Yg 0 0] [(0,[Zq h_,Zz AI n,Zx gY])]) λr=>aC (Zd r) λx fl=>aW x λjH fz=>ag AI fz λn fA=>aq fA λj7 fS=>ak fS (aD fl (Xy AI (Zg r) λn=>aE j7 t0 (aE (!Kerb.ll.err (Kerb.aR (Kerb.eQ.mk eG bf bL n 0))==0) t0 (aE (!Kerb.ll.val (Kerb.aR (Kerb.eQ.mk eG bf bL n 0))==b) t0 (Zp (Yz [Yu [Zu eG,Zz AI bf,Zz AI bL,Zz AI n,Zz AT 0],Zz AI 0],[]))))))))) (Zy (Cz [Yg 0 0] [(0,[Zq fG,Zz AI n,Zx gG])]) λr=>aC (Zd r) λx io=>aW x λh_ dA=>ag AI dA λn eC=>aq eC λgY eD=>ak eD (aD io (Xy AT (Zg r) λn=>let t1:AV:=Yu [Zu eG,Zz AI bf,Zz AI 0,Zz AI 0,Zz AT n];aE gY t0 (Zy (I9 [t1] []) (kT λvs=>aW vs λjH r=>ag AI r λn r=>ak r (aE (!n==0) t0 (aE (!jH==b) t0 (Zp (Yz [t1,Zz AI 0],[])))))))))))))) ?_;delta kT;dsimp only[tC,ve,Cz,I9,aI,aW,aq,cO,ag,bH,dc];have hb:=Qa3 ay;simp only[A0,ay];cases ht:Kerb.jG (Kerb.dM b 4 0 Yw).val
 .have hk:=Kerb.vx b (Kerb.gL b 4 (Kerb.dM b 4 0 Yw).pos (Kerb.dM b 4 0 Yw).bad).pos (Kerb.gL b 4 (Kerb.dM b 4 0 Yw).pos (Kerb.dM b 4 0 Yw).bad).bad;rw[aF,ae (by simp;omega)];exact Kerb.c9 (no:=Kerb.n9) (enc:=Kerb.aR) (rd:=Kerb.iY) _ _ (by unfold Kerb.iY Kerb.Ir;dsimp only;rw[ht];rfl) (λx e=>(Yz [Yu [Zu (x).label,Zz Zb (x).time,Zz Zb (x).start,Zz Zb (x).stop,Zz IntKind.u64 (x).new],Zz Zb e],([]:aO)))
 .rw[b_];exact Kerb.c9 (no:=Kerb.n9) (enc:=Kerb.aR) (rd:=Kerb.iY) _ _ (by unfold Kerb.iY Kerb.Ir;dsimp only;rw[ht];rfl) (λx e=>(Yz [Yu [Zu (x).label,Zz Zb (x).time,Zz Zb (x).start,Zz Zb (x).stop,Zz IntKind.u64 (x).new],Zz Zb e],([]:aO)))
theorem w79:Wk 79 6 R8:=by
 refine cw Tryz.func79 λ_ _ _ h=> ?_;unfold R8 at h;split at h;case h_2=>cases h
 rename_i b;obtain⟨ay,rfl⟩:=dg h;refine c6 (let t2:AV:=Yu [Zx Yw,Zu [],Zu [],Zu [],Zz AI 0,Zz AT 0,Zz AI 0,Zz AI 0,Zu [],Zu []];let t1:Option (AV×aO):=Zp (Yz [t2,Zz AI 100],[]);let t0:Option (AV×aO):=Zy (iH [Yg 0 0] [(0,[Zq b,Zz AI 0,Zx Yw,Zx Yw])]) λr=>aC (Zd r) λx dj=>aW x λbW dr=>ag AI dr λn dH=>aq dH λeg eK=>aq eK λeG fL=>ak fL (aD dj (Xy AI (Zg r) λbf=>Zy (nT [Yg 0 0] [(0,[Zq bW,Zz AI n,Zx (bf==1),Zx eG])]) λr=>aC (Zd r) λx f_=>aW x λfG g7=>ag AI g7 λn iA=>aq iA λgG io=>aq io λh_ dA=>ak dA (aD f_ (Wv (Zg r) λcs=>aI cs λgY r=>aI r λjH r=>aI r λj7 r=>ak r (Zy (jk [Yg 0 0] [(0,[Zq fG,Zz AI n,Zx gG,Zx h_])]) λr=>aC (Zd r) λx eC=>aW x λfF eD=>ag AI eD λn fl=>aq fl λfM fz=>aq fz λgB fA=>ak fA (aD eC (Xy AI (Zg r) λbL=>Zy (gA [Yg 0 0,Zz AI 8] [(0,[Zq fF,Zz AI n,Zx fM,Zx gB])]) λr=>aC (Zd r) λx fS=>aW x λgf im=>ag AI im λn iS=>aq iS λhO iT=>aq iT λiL iU=>ak iU (aD fS (AV.cS (Zg r) λiE=>Lu [Zq iE] λdm iZ=>Zy (iH [Yg 0 0] [(0,[Zq gf,Zz AI n,Zx hO,Zx iL])]) λr=>aC (Zd r) λx lN=>aW x λhU lO=>ag AI lO λn lP=>aq lP λjo lQ=>aq lQ λj6 nu=>ak nu (aD lN (Xy AI (Zg r) λbU=>Zy (jk [Yg 0 0] [(0,[Zq hU,Zz AI n,Zx jo,Zx j6])]) λr=>aC (Zd r) λx nv=>aW x λkJ nw=>ag AI nw λn ny=>aq ny λlJ nz=>aq nz λlq nA=>ak nA (aD nv (Xy AI (Zg r) λbO=>Zy (o0 [Yg 0 0] [(0,[Zq kJ,Zz AI n,Zx lJ,Zx lq])]) λr=>aC (Zd r) λx qg=>aW x λnW qh=>ag AI qh λn qi=>aq qi λnK rh=>aq rh λmN ri=>ak ri (aD qg (AV.fK (Zg r) λoD=>Zy (o0 [Yg 0 0] [(0,[Zq nW,Zz AI n,Zx nK,Zx mN])]) λr=>aC (Zd r) λx sX=>aW x λqt wU=>ag AI wU λn wV=>aq wV λsq wW=>aq wW λpJ zK=>ak zK (aD sX (AV.fK (Zg r) λss=>W9 [Yu [Zx (bf==1),Zu gY,Zu jH,Zu j7,Zz AI bL,Zz AT dm,Zz AI bU,Zz AI bO,Zu oD,Zu ss]] λA_ n=>aE pJ t1 (aE (!n==0) t1 (aE (!A_==b) t1 (Zp (Yz [Yu [Zx (bf==1),Zu gY,Zu jH,Zu j7,Zz AI bL,Zz AT dm,Zz AI bU,Zz AI bO,Zu oD,Zu ss],Zz AI 0],[])))))))))))))))))))));aE (Zk ((Zw b:Int)>0)) (aB (Zk (0<(Zw b:Int))) (aE (Zk ((↑(Yd (List.getD b (Yf 0) (0:UInt8))):Int)>(↑(Yd (1:UInt8)):Int))) (Zp (Yz [t2,Zz AI 7],[])) t0)) t0) ?_;unfold Lu W9;delta kT;dsimp only[CU,Lj,nT,jk,iH,gA,o0,aI,aW,aq,cO,ag,bH,dc];have hb:=Qa3 ay;simp only[ay,↓A0,A0];unfold Kerb.bG;rw[Kerb.Dl];have hl:∀ p n,(Kerb.bytes b p n).val.length<=4611686018427387904:=λp n=>Yp (Kerb.gN b p n) (by omega);have hk:∀ q,0<=(Kerb.cK q).1/\(Kerb.cK q).1<18446744073709551616:=Kerb.dV;have hx:∀ q,(Kerb.text b q).val.length<=40:=Kerb.fX b;have lp:∀ q bd,(Kerb.dN b q bd).p.name.length<=40/\(Kerb.dN b q bd).p.inst.length<=40/\(Kerb.dN b q bd).p.aK.length<=40:=Kerb.k9 b;have h7b:¬ (0<b.length)->¬ 1<(Kerb.get b 0 1 Yw).val:=by
  intro h;have:b=[]:=List.eq_nil_of_length_eq_zero (by omega);subst this;decide
 have hv:0<b.length->(Kerb.get b 0 1 Yw).val=((List.getD b (Yf 0) 0).toNat:Int):=by
  intro h;cases b with
  | nil=>simp at h
  | cons c r =>
   have hr:Kerb.room (c::r) 0 1=0:=Kerb.iB.2 ⟨by omega,by simp only[List.length_cons];omega,by omega,by simp only[List.length_cons];omega⟩;unfold Kerb.get;rw[Qa1 hr];simp[Kerb.cut,Kerb.jU]
 have fin:=Kerb.c9 (no:=Kerb.jr) (enc:=Kerb.bC) (b:=b) (rd:=λb=>((Kerb.nF b).val,(Kerb.nF b).bad)) _ _ rfl (λx e=>(Yz [Yu [Zx (x).By,Zu (x).BY.name,Zu (x).BY.inst,Zu (x).BY.aK,Zz Zb (x).address,Zz IntKind.u64 (x).ax,Zz Zb (x).bS,Zz Zb (x).cL,Zu (x).service,Zu (x).inst],Zz Zb e],([]:aO)));by_cases h:0<b.length
 .rw[af (by simp only[Qa2];omega),ae (by simp only[Qa2];omega)];have hv:=hv h;by_cases h7:1<(Kerb.get b 0 1 Yw).val
  .rw[af (by rw[hv] at h7;exact Qa4 h7),Qa1 h7];rfl
  rw[ah (by rw[hv] at h7;exact Qa5 h7),Qa0 h7];rw[ae (by simp only[Qa2];exact hl _ _),ae (by simp only[Zj,Qa2];exact⟨⟨⟨⟨⟨⟨Yp (lp _ _).1 (by decide),Yp (lp _ _).2.1 (by decide)⟩,Yp (lp _ _).2.2 (by decide)⟩,Yp (hx _) (by decide)⟩,Yp (hx _) (by decide)⟩,(hk _).1⟩,(hk _).2⟩)];exact fin
 .rw[ah (by simp only[decide_eq_false_iff_not];omega),Qa0 (h7b h)];rw[ae (by simp only[Qa2];exact hl _ _),ae (by simp only[Zj,Qa2];exact⟨⟨⟨⟨⟨⟨Yp (lp _ _).1 (by decide),Yp (lp _ _).2.1 (by decide)⟩,Yp (lp _ _).2.2 (by decide)⟩,Yp (hx _) (by decide)⟩,Yp (hx _) (by decide)⟩,(hk _).1⟩,(hk _).2⟩)];exact fin
theorem aez:Wk 117 6 IU:=by
 refine cw Tryz.func117 λ_ _ _ h=> ?_;unfold IU at h;split at h;case h_2=>cases h
 rename_i b;obtain⟨ay,rfl⟩:=dg h;refine c6 (XQ [Zq b] λn bf bW bL dm=>aE (dm==0) (Zp (Zx (bL==(Zw b:Int)),[])) (Zp (Zx Yw,[]))) ?_;unfold XQ;delta kT;dsimp only[Jc,aI,aW,aq,cO,ag,bH,dc];have lb:=Qa3 ay;simp(config:={maxSteps:=10000000}) only[lb,Qb4,↓N2];unfold Kerb.oF;cases ((Kerb.aU b).err==0)<;>rfl
theorem aeD:Wk 121 6 IY:=by
 refine cw Tryz.func121 λ_ _ _ h=> ?_;unfold IY at h;split at h;case h_2=>cases h
 rename_i b;obtain⟨ay,rfl⟩:=dg h;refine c6 (aE (!Zd (Xv b [8])==0) (Zp (Yz [Zq [],Zx Yw,Zz AI (Zd (Xv b [8]))],[])) (Da [Zq b,Zz AI 2,Zx (Zg (Xv b [8]))] λn bf bL=>tE [Zq b,Zz AI bf,Zz AI n] λbW n dm=>aE (!Kerb.ll.err (Kerb.cj bW (Zg (Xv b [8])))==0) (Zp (Yz [Zq [],Zx Yw,Zz AI 100],[])) (aE (!Kerb.ll.val (Kerb.cj bW (Zg (Xv b [8])))==b) (Zp (Yz [Zq [],Zx Yw,Zz AI 100],[])) (Zp (Yz [Zq bW,Zx (Zg (Xv b [8])),Zz AI 0],[]))))) ?_;unfold tE Da;delta kT;dsimp only[tB,yL,aI,aW,aq,cO,ag,bH,dc];have hb:=Qa3 ay;have kf:Zk (b.length<=4611686018427387904)=Yj:=by simp;omega
 unfold Kerb.g9;by_cases h:(Xv b [8]).2=0;case neg=>rw[af (by simpa using h),Qa1 h]
 rw[ah (by simpa using h),Qa0 (by simpa using h)];simp only[↓A0];rw[ae kf,ae ay];generalize (Xv b [8]).1=li;have key:=Kerb.c9 (no:=([]:List UInt8)) (enc:=λs=>Kerb.cj s li) (rd:=λb'=>(Kerb.sY b' li,Yw)) (b:=b) _ _ rfl (λx e=>(Yz [Zq x,Zx (cond (e==0) li Yw),Zz Zb e],([]:aO)));refine Qb3 key ?_;generalize hD:Kerb.eN ([]:List UInt8) (λs=>Kerb.cj s li) (λb'=>(Kerb.sY b' li,Yw)) b=D;have hD2:D.err=0\/(D.err=100/\D.val=[]):=by
  rw[<-hD];unfold Kerb.eN;split
  .exact .inr ⟨rfl,rfl⟩
  .exact .inl rfl
 rcases hD2 with h0 | ⟨h0,h1⟩
 .rw[h0,Qa1 rfl];rfl
 .rw[h0,h1,Qa0 (by decide)];rfl
theorem aeE:Wk 122 6 IZ:=by
 refine cw Tryz.func122 λ_ _ _ h=> ?_;unfold IZ at h;split at h;case h_2=>cases h
 rename_i b;obtain⟨ay,rfl⟩:=dg h;refine c6 (Zy (Jf [Zq b] []) (kT λvs=>ag AI vs λn r=>aW r λb r=>aW r λbW r=>aq r λeg r=>ag AI r λn r=>ak r (Zp (Yz [Zq b,Zq bW,Zx eg,Zz AI n],[])))) ?_;delta kT;dsimp only[Jf,aI,aW,aq,cO,ag,bH,dc];simp only[Zj,Qa2] at ay;simp only[A0,Yn,Xz,Kerb.eL.av,ay,Qb4]
theorem afF:Wk 196 6 Q':=by
 refine cw Tryz.func196 λ_ _ _ h=> ?_;unfold Q' at h;split at h;case h_2=>cases h
 rename_i op cd bx;cases h;refine c6 (let t0:Option (AV×aO):=Zy (sa [Zq (Xk 9 Yw++Yk (Zv AI (op+128)) 1 Yw),Zz AI cd] []) (kO λl=>Zy (Aq [Zq l,Zq bx] []) (kB λb=>Zp (Yz [Zq b,Zz AI 0],[])));aE (!Kerb.nc op) (Zp (Yz [Zq [],Zz AI 40],[])) (aE (!Zn cd 99) (Zp (Yz [Zq [],Zz AI 104],[])) (aE (Zk ((Zw bx:Int)>1012)) (Zp (Yz [Zq [],Zz AI 105],[])) (aE (!cd==0) (aE (Zk ((Zw bx:Int)>0)) (Zp (Yz [Zq [],Zz AI 108],[])) t0) t0)))) ?_;delta kB kO;dsimp only[sa,Aq,aI,aW,aq,cO,ag,bH,dc];simp only[A0];have sL:(Xk 9 Yw).length=2:=rfl;unfold Kerb.bw;simp only;cases h0:Kerb.nc op
 .rfl
 rw[Zf,aF,Qa0 (by simp)];have ho:=Kerb.x9.1 h0;cases h1:Zn cd 99
 .rfl
 rw[Zf,aF,Qa0 (by simp)];by_cases h2:1012<bx.length
 .rw[af (by simp;omega),Qa1 h2]
 rw[ah (by simp;omega),Qa0 h2,wrap_i64 (by omega) (by omega)];by_cases h3:cd=0
 .rw[ah (by simp[h3]),Qa0 (by simp[h3]),ae (by simp[Zh,sL]),ae (by simp[Zh,sL];omega)];rfl
 rw[af (by simpa using h3)];by_cases h4:bx=[]
 .rw[ah (by simp[h4]),Qa0 (by simp[h4]),ae (by simp[Zh,sL]),ae (by simp[Zh,sL];omega)];rfl
 .rw[af (by have:=List.length_pos_iff.2 h4;simp;omega),Qa1 ⟨h3,h4⟩]
theorem agk:Wk 244 6 CM:=by
 refine cw Tryz.func244 λ_ _ _ h=> ?_;unfold CM at h;split at h;case h_2=>cases h
 rename_i s;obtain⟨ay,rfl⟩:=dg h;refine c6 (aE (!s==[]) (Zy (sc [Zu s] []) (kL λb=>Zp (Zx b,[]))) (Zp (Zx Yw,[]))) ?_;delta kL;dsimp only[sc,aI,aW,aq,cO,ag,bH,dc];simp only[A0];rw[ae ay];simp only[Kerb.dO];cases s<;>rfl
theorem agD:Wk 266 6 Jz:=by
 refine cw Tryz.func266 λ_ _ _ h=> ?_;unfold Jz at h;split at h;case h_2=>cases h
 rename_i a b els;obtain⟨ay,rfl⟩:=dg h;refine tK [0] (let t3:Int:=Zv AI (Xu (Zv AI (b-a)) 4);let t0:AV:=Zz AI (Zv AI (a+Zv AI (t3*2)));let t1:AV:=Zz AI (Zv AI (a+Zv AI (t3*1)));let t2:AV:=Zz AI (Zv AI (a+Zv AI (t3*3)));aE (Zk (Zv AI (b-a)>=8)) (aE (Zk (Zv AI (b-a)>=50)) (Zy (CQ [Xm 0 27 1,t1,Yg 2 0] [(0,els),(0+1+1,[Zz AI 0])]) λr=>aC (Zd r) λx dj=>aC dj λx_1 dr=>aA x_1 λx_2 dH=>Xy AI x_2 λn=>ak dH (aD dr (Xy AI (Zg r) λbf=>Zy (CQ [Xm 0 27 1,t0,Yg 2 0] [(0,x),(0+1+1,[Zz AI n])]) λr=>aC (Zd r) λx eK=>aC eK λx_3 fL=>aA x_3 λx_4 f_=>Xy AI x_4 λn=>ak f_ (aD fL (Xy AI (Zg r) λbL=>Zy (CQ [Xm 0 27 1,t2,Yg 2 0] [(0,x),(0+1+1,[Zz AI n])]) λr=>aC (Zd r) λx g7=>aC g7 λx_5 iA=>aA x_5 λx_6 io=>Xy AI x_6 λn=>ak io (aD iA (Xy AI (Zg r) λdm=>Zy (Ar [Xm 0 27 1,Zz AI bf,Zz AI bL,Zz AI dm,Yg 4 0] [(0,x),(0+1+1+1+1,[Zz AI n])]) λr=>aC (Zd r) λx dA=>aC dA λx_7 eC=>aA x_7 λx_8 eD=>Xy AI x_8 λn=>ak eD (aD eC (Xy AI (Zg r) λbU=>aE (n==0) (Zp (Yz [Zz AI bU,Zz AI 1],[x])) (aE (n==12) (Zp (Yz [Zz AI bU,Zz AI 2],[x])) (Zp (Yz [Zz AI bU,Zz AI 0],[x])))))))))))) (Zy (Ar [Xm 0 27 1,t1,t0,t2,Yg 4 0] [(0,els),(0+1+1+1+1,[Zz AI 0])]) λr=>aC (Zd r) λx dj=>aC dj λx_1 dr=>aA x_1 λx_2 dH=>Xy AI x_2 λn=>ak dH (aD dr (Xy AI (Zg r) λbf=>aE (n==0) (Zp (Yz [Zz AI bf,Zz AI 1],[x])) (aE (n==12) (Zp (Yz [Zz AI bf,Zz AI 2],[x])) (Zp (Yz [Zz AI bf,Zz AI 0],[x]))))))) (Zp (Yz [t0,Zz AI 1],[els]))) ?_;dsimp only[CQ,Ar,aI,aW,aq,cO,ag,bH,dc];simp only[Zj,Qa2] at ay;obtain⟨⟨⟨⟨⟨ig,hlen⟩,JO⟩,xe⟩,hb⟩,h8⟩:=ay;obtain⟨d,rfl,hd⟩:=Kerb.nq ig;simp only[Yh] at hlen hb;obtain⟨a,rfl⟩:=Xj (show 0<=a by omega);obtain⟨b,rfl⟩:=Xj (show 0<=b by omega);obtain⟨l,hl⟩:∃ l,l=b-a:=⟨_,rfl⟩;obtain⟨q,hq⟩:∃ q,q=l / 4:=⟨_,rfl⟩;rw[show Zv AI ((b:Int)-(a:Int))=((l:Nat):Int) from(Ym (by omega) (by omega)).trans (by omega),show Xu (l:Int) 4=((l / 4:Nat):Int) from rfl,<-hq,show Zv AI ((q:Nat))=((q:Nat):Int) from(Ym (by omega) (by omega)).trans (by omega)];rw[show Zv AI (((q:Nat):Int)*1)=((q*1:Nat):Int) from(Ym (by omega) (by omega)).trans (by omega),show Zv AI (((q:Nat):Int)*2)=((q*2:Nat):Int) from(Ym (by omega) (by omega)).trans (by omega),show Zv AI (((q:Nat):Int)*3)=((q*3:Nat):Int) from(Ym (by omega) (by omega)).trans (by omega)];rw[show Zv AI ((a:Int)+((q*1:Nat):Int))=((a+q*1:Nat):Int) from(Ym (by omega) (by omega)).trans (by omega),show Zv AI ((a:Int)+((q*2:Nat):Int))=((a+q*2:Nat):Int) from(Ym (by omega) (by omega)).trans (by omega),show Zv AI ((a:Int)+((q*3:Nat):Int))=((a+q*3:Nat):Int) from(Ym (by omega) (by omega)).trans (by omega)];simp only[Kerb.Iw,Kerb.FT,Kerb.median,Kerb.fq,Wp,Int.toNat_zero];unfold Go.Sort.choosePivot;dsimp only;rw[<-hl,<-hq,Qa1 (show l>=8 by omega),af (by simp;omega)];by_cases YL:l>=50
 .rw[Qa1 YL,af (by simp;omega)];have m1:=Kerb.zA (lt:=Go.Sort.ltInt) (d:=d) (s:=0) (show a+q*1+1<d.size by omega);rw[ae (by simp only[Xx,Yh,Wj,Zj,Qa2,Qa9,Qa8];omega)];simp only[↓gy,↓fm,↓bX,↓hF,↓lF,↓dx,↓dC,↓dR];simp only[Kerb.fq,Wp];generalize Go.Sort.medianAdjacent Go.Sort.ltInt d (a+q*1) 0=r1 at m1 ⊢;have m2:=Kerb.zA (lt:=Go.Sort.ltInt) (d:=d) (s:=r1.2) (show a+q*2+1<d.size by omega);rw[ae (by simp only[Xx,Yh,Wj,Zj,Qa2,Qa9,Qa8];omega)];simp only[↓gy,↓fm,↓bX,↓hF,↓lF,↓dx,↓dC,↓dR];simp only[Kerb.fq,Wp];generalize Go.Sort.medianAdjacent Go.Sort.ltInt d (a+q*2) r1.2=r2 at m2 ⊢;have m3:=Kerb.zA (lt:=Go.Sort.ltInt) (d:=d) (s:=r2.2) (show a+q*3+1<d.size by omega);rw[ae (by simp only[Xx,Yh,Wj,Zj,Qa2,Qa9,Qa8];omega)];simp only[↓gy,↓fm,↓bX,↓hF,↓lF,↓dx,↓dC,↓dR];simp only[Kerb.fq,Wp];generalize Go.Sort.medianAdjacent Go.Sort.ltInt d (a+q*3) r2.2=r3 at m3 ⊢;rw[ae (by simp only[Xx,Yh,Wj,Zj,Qa2,Qa9,Qa8];omega)];simp only[↓gy,↓fm,↓bX,↓hF,↓lF,↓dx,↓dC,↓dR];exact Kerb.HE (λh=>Zp (Yz [Zz AI ((Go.Sort.median Go.Sort.ltInt d r1.1 r2.1 r3.1 r3.2).1:Int),Zz AI h],[Xb d])) _
 .rw[Qa0 YL,ah (by simp;omega)];rw[ae (by simp only[Xx,Yh,Wj,Zj,Qa2,Qa9,Qa8];omega)];simp only[↓gy,↓fm,↓bX,↓hF,↓lF,↓dx,↓dC,↓dR];exact Kerb.HE (λh=>Zp (Yz [Zz AI ((Go.Sort.median Go.Sort.ltInt d (a+q*1) (a+q*2) (a+q*3) 0).1:Int),Zz AI h],[Xb d])) _
theorem w12:Wk 12 7 WM:=by
 refine cw Tryz.func12 λ_ _ _ h=> ?_;unfold WM at h;split at h;case h_2=>cases h
 rename_i b;obtain⟨ay,rfl⟩:=dg h;refine c6 (Zy (RQ [Zq b] []) (kT λvs=>aA vs λx r=>Wv x λcs=>aq cs λbW dj=>aI dj λeg dr=>aI dr λeG dH=>aI dH λfG eK=>ag AI eK λn fL=>ag AI fL λn f_=>ag AI f_ λn g7=>aW g7 λgG iA=>ak iA (ag AI r λn r=>ak r (aE (n==0) (Zy (vh [Yq 1 [Zq gG]] []) λr=>aD (Zd r) (Xg 1 (Zg r) λb=>Zp (Yq 1 b,[]))) (Zy (RR [Zq b] []) (kT λvs=>aA vs λx r=>Wv x λcs=>aq cs λh_ io=>aq io λgY dA=>ag AI dA λn eC=>aI eC λjH eD=>aW eD λj7 fl=>aW fl λfF fz=>ak fz (ag AI r λn r=>ak r (aE (n==0) (Zy (vh [Yq 1 [Zq j7,Zq fF]] []) λr=>aD (Zd r) (Xg 1 (Zg r) λb=>Zp (Yq 1 b,[]))) (Zy (RS [Zq b] []) (kT λvs=>aA vs λx r=>Wv x λcs=>aq cs λfM fA=>aq fA λgB fS=>ag AI fS λn im=>aI im λgf iS=>aW iS λhO iT=>aW iT λiL iU=>ag AI iU λn lN=>ag AI lN λn lO=>aI lO λiE lP=>aI lP λiZ lQ=>ak lQ (ag AI r λn r=>ak r (aE (n==0) (Zy (vh [Yq 1 [Zq hO,Zq iL]] []) λr=>aD (Zd r) (Xg 1 (Zg r) λb=>Zp (Yq 1 b,[]))) (Zy (RU [Zq b] []) (kT λvs=>aW vs λhU r=>aq r λjo r=>ag AI r λn r=>ak r (aE (n==0) (Zy (vh [Yq 1 [Zq hU]] []) λr=>aD (Zd r) (Xg 1 (Zg r) λb=>Zp (Yq 1 b,[]))) (Zy (RV [Zq b] []) (kT λvs=>aW vs λj6 r=>aW r λkJ r=>aq r λlJ r=>ag AI r λn r=>ak r (aE (n==0) (Zy (vh [Yq 1 [Zq kJ]] []) λr=>aD (Zd r) (Xg 1 (Zg r) λb=>Zp (Yq 1 b,[]))) (Zy (RW [Zq b] []) (kT λvs=>aA vs λx r=>Wv x λcs=>ag AI cs λn nu=>aI nu λlq nv=>aI nv λnW nw=>aI nw λnK ny=>ag AI ny λn nz=>aI nz λmN nA=>aW nA λoD qg=>aI qg λqt qh=>aI qh λsq qi=>aW qi λpJ rh=>ak rh (ag AI r λn r=>ak r (aE (n==0) (Zy (vh [Yq 1 [Zq oD,Zq pJ]] []) λr=>aD (Zd r) (Xg 1 (Zg r) λb=>Zp (Yq 1 b,[]))) (Zy (RX [Zq b] []) (kT λvs=>aA vs λx r=>Wv x λcs=>ag AI cs λn ri=>ag AI ri λn sX=>aW sX λss wU=>ak wU (ag AI r λn r=>ak r (aE (n==0) (Zy (vh [Yq 1 [Zq ss]] []) λr=>aD (Zd r) (Xg 1 (Zg r) λb=>Zp (Yq 1 b,[]))) (Zy (RY [Zq b] []) (kT λvs=>aA vs λx r=>Wv x λcs=>ag AI cs λn wV=>aI wV λb wW=>aI wW λb zK=>aI zK λb F_=>aW F_ λb F'=>ak F' (ag AI r λn r=>ak r (aE (n==0) (Zy (vh [Yq 1 [Zq b]] []) λr=>aD (Zd r) (Xg 1 (Zg r) λb=>Zp (Yq 1 b,[]))) (Zp (Yq 1 [],[])))))))))))))))))))))))))))))))) ?_;delta kT;dsimp only[RQ,vh,RR,RS,RU,RV,RW,RX,RY,aI,aW,aq,cO,ag,bH,dc];have hb:=Qa3 ay;have T3:Zk (b.length<=140737488355328)=Yj:=by simp;omega
 have h1:=Kerb.ue b;have h2:=Kerb.zV b;have h3:=Kerb.xE b;have h4:=Kerb.vU b;have h5:=Kerb.Cd b;have h6:=Kerb.pQ b;have h7:=Kerb.rz b;have h8:=Kerb.vV b;simp only[A0,Yn,Xz,Kerb.eL.av,T3];unfold Kerb.partsOf Kerb.oO;by_cases hc:(Kerb.bm b).err=0
 .rw[af (by simpa using hc),Qa1 hc];rw[ae (Kerb.uJ (by omega))];rfl
 rw[ah (by simpa using hc),Qa0 hc];clear hc;by_cases hc:(Kerb.eI b).err=0
 .rw[af (by simpa using hc),Qa1 hc];rw[ae (Kerb.P3 (by omega) (by omega))];rfl
 rw[ah (by simpa using hc),Qa0 hc];clear hc;by_cases hc:(Kerb.ch b).err=0
 .rw[af (by simpa using hc),Qa1 hc];rw[ae (Kerb.P3 (by omega) (by omega))];rfl
 rw[ah (by simpa using hc),Qa0 hc];clear hc;by_cases hc:(Kerb.g9 b).err=0
 .rw[af (by simpa using hc),Qa1 hc];rw[ae (Kerb.uJ (by omega))];rfl
 rw[ah (by simpa using hc),Qa0 hc];clear hc;by_cases hc:(Kerb.gE b).err=0
 .rw[af (by simpa using hc),Qa1 hc];rw[ae (Kerb.uJ (by omega))];rfl
 rw[ah (by simpa using hc),Qa0 hc];clear hc;by_cases hc:(Kerb.aV b).err=0
 .rw[af (by simpa using hc),Qa1 hc];rw[ae (Kerb.P3 (by omega) (by omega))];rfl
 rw[ah (by simpa using hc),Qa0 hc];clear hc;by_cases hc:(Kerb.cD b).err=0
 .rw[af (by simpa using hc),Qa1 hc];rw[ae (Kerb.uJ (by omega))];rfl
 rw[ah (by simpa using hc),Qa0 hc];clear hc;by_cases hc:(Kerb.dD b).err=0
 .rw[af (by simpa using hc),Qa1 hc];rw[ae (Kerb.uJ (by omega))];rfl
 rw[ah (by simpa using hc),Qa0 hc];clear hc;rfl
theorem w16:Wk 16 7 TN:=by
 refine cw Tryz.func16 λ_ _ _ h=> ?_;unfold TN at h;split at h;case h_2=>cases h
 rename_i kd k b;obtain⟨ay,rfl⟩:=dg h
 refine c6 (aE (kd==1) (Zy (R8 [Zq b] []) (kT λvs=>aA vs λx r=>Wv x λcs=>aq cs λb dj=>aI dj λb dr=>aI dr λb dH=>aI dH λb eK=>ag AI eK λn fL=>ag AT fL λn f_=>ag AI f_ λbf g7=>ag AI g7 λbL iA=>aI iA λb io=>aI io λb dA=>ak dA (ag AI r λdm r=>ak r (aE (dm==0) (Zy (CW [Zz AT n] []) λr=>aD (Zd r) (Xg 1 (Zg r) λb=>Zp (Yz [Yq 1 b,Yq 1 []],[]))) (Zp (Yz [Yq 1 [],Yq 1 []],[])))))) (aE (kd==3) (Zy (On [Zq b,Zx Yw] []) (kT λvs=>aA vs λx r=>Wv x λcs=>ag AT cs λn dj=>aI dj λbW dr=>aI dr λeg dH=>aI dH λeG eK=>ag AI eK λbf fL=>ag AI fL λbL f_=>aW f_ λfG g7=>ag AI g7 λdm iA=>ak iA (ag AI r λbU r=>ak r (aE (!bU==0) (Zy (On [Zq b,Zx Yj] []) (kT λvs=>aA vs λx r=>Wv x λcs=>ag AT cs λn io=>aI io λb dA=>aI dA λb eC=>aI eC λb eD=>ag AI eD λbO fl=>ag AI fl λfI fz=>aW fz λb fA=>ag AI fA λfZ fS=>ak fS (ag AI r λiN r=>ak r (aE (iN==0) (Zy (CW [Zz AT n] []) λr=>aD (Zd r) (Xg 1 (Zg r) λgG=>Zy (vh [Yq 1 [Zq b]] []) λr=>aD (Zd r) (Xg 1 (Zg r) λb=>Zp (Yz [Yq 1 gG,Yq 1 b],[])))) (Zp (Yz [Yq 1 [],Yq 1 []],[])))))) (aE (bU==0) (Zy (CW [Zz AT n] []) λr=>aD (Zd r) (Xg 1 (Zg r) λb=>Zy (vh [Yq 1 [Zq fG]] []) λr=>aD (Zd r) (Xg 1 (Zg r) λgG=>Zp (Yz [Yq 1 b,Yq 1 gG],[])))) (Zp (Yz [Yq 1 [],Yq 1 []],[]))))))) (aE (kd==7) (Zy (R9 [Zq b] []) (kT λvs=>aA vs λx r=>Wv x λcs=>aI cs λb dj=>ag AI dj λn dr=>ag AI dr λn dH=>ag AI dH λn eK=>ag AT eK λn fL=>ak fL (ag AI r λbf r=>ak r (aE (bf==0) (Zy (CW [Zz AT n] []) λr=>aD (Zd r) (Xg 1 (Zg r) λb=>Zp (Yz [Yq 1 b,Yq 1 []],[]))) (Zp (Yz [Yq 1 [],Yq 1 []],[])))))) (aE (kd==8) (Zy (R_ [Zq b] []) (kT λvs=>aA vs λx r=>Wv x λcs=>aI cs λb dj=>ag AI dj λn dr=>ag AT dr λn dH=>ag AI dH λbf eK=>ag AI eK λbL fL=>ag AI fL λdm f_=>aI f_ λb g7=>aI g7 λb iA=>aI iA λb io=>aW io λb dA=>ak dA (ag AI r λbU r=>ak r (aE (bU==0) (Zy (CW [Zz AT n] []) λr=>aD (Zd r) (Xg 1 (Zg r) λbW=>Zy (vh [Yq 1 [Zq b]] []) λr=>aD (Zd r) (Xg 1 (Zg r) λb=>Zp (Yz [Yq 1 bW,Yq 1 b],[])))) (Zp (Yz [Yq 1 [],Yq 1 []],[])))))) (aE (kd==9) (Zy (Sa [Zq b] []) (kT λvs=>aA vs λx r=>Wv x λcs=>aI cs λb dj=>aI dj λb dr=>aI dr λb dH=>aI dH λb eK=>aI eK λb fL=>aI fL λb f_=>ag AT f_ λn g7=>ag AI g7 λbf iA=>ag AI iA λbL io=>ag AI io λdm dA=>ak dA (ag AI r λbU r=>ak r (aE (bU==0) (Zy (CW [Zz AT n] []) λr=>aD (Zd r) (Xg 1 (Zg r) λb=>Zp (Yz [Yq 1 b,Yq 1 []],[]))) (Zp (Yz [Yq 1 [],Yq 1 []],[])))))) (aE (kd==10) (Zy (Sb [Zq b] []) (kT λvs=>aA vs λx r=>Wv x λcs=>ag AT cs λn dj=>aI dj λb dr=>aI dr λb dH=>aI dH λb eK=>ag AI eK λbf fL=>ag AI fL λbL f_=>aW f_ λb g7=>ak g7 (ag AI r λdm r=>ak r (aE (dm==0) (Zy (CW [Zz AT n] []) λr=>aD (Zd r) (Xg 1 (Zg r) λbW=>Zy (vh [Yq 1 [Zq b]] []) λr=>aD (Zd r) (Xg 1 (Zg r) λb=>Zp (Yz [Yq 1 bW,Yq 1 b],[])))) (Zp (Yz [Yq 1 [],Yq 1 []],[])))))) (Zp (Yz [Yq 1 [],Yq 1 []],[])))))))) ?_
 delta kT;dsimp only[vh,R8,CW,On,R9,R_,Sa,Sb,aI,aW,aq,cO,ag,bH,dc];have hb:=Qa3 ay;have T3:Zk (b.length<=140737488355328)=Yj:=by simp;omega
 have k1:=Kerb.rA b;have k2:=Kerb.uc b;have k3:=Kerb.pR b;have k4:=Kerb.pP b;have k5:=Kerb.ud b;have k6:=Kerb.te b;have t2:=Kerb.qU b;have t4:=Kerb.mR b;have t6:=Kerb.pS b;have u2:∀ li,(Kerb.bu b li).val.aG.length<=70368744177664:=λli=>Yp (t2 li) (by omega);have u4:(Kerb.bc b).val.aG.length<=70368744177664:=Yp t4 (by omega);have u6:(Kerb.cc b).val.record.length<=70368744177664:=Yp t6 (by omega);simp only[A0,Yn,Xz,Kerb.eL.av,T3,k1,k2,k3,k4,k5,k6,Qb4,Yb,Kerb.uJ (u2 _),Kerb.uJ u4,Kerb.uJ u6];unfold Kerb.ij;simp only;by_cases hq:kd=1
 .rw[af (by simpa using hq),Qa1 hq];by_cases g:(Kerb.bG b).err=0
  .rw[af (by simpa using g),Qa1 g];rfl
  .rw[ah (by simpa using g),Qa0 g];rfl
 rw[ah (by simpa using hq),Qa0 hq];clear hq;by_cases hq:kd=3
 .rw[af (by simpa using hq),Qa1 hq];by_cases g:(Kerb.bu b Yw).err=0
  .simp only[g,Qb2,Zf,aF,b_,if_true];rfl
  .have g':((Kerb.bu b Yw).err==0)=Yw:=by simpa using g
   simp only[g',Bool.not_false,b_,Qa0 g];by_cases g2:(Kerb.bu b Yj).err=0
   .rw[af (by simpa using g2),Qa1 g2];rfl
   .rw[ah (by simpa using g2),Qa0 g2];rfl
 rw[ah (by simpa using hq),Qa0 hq];clear hq;by_cases hq:kd=7
 .rw[af (by simpa using hq),Qa1 hq];by_cases g:(Kerb.cE b).err=0
  .rw[af (by simpa using g),Qa1 g];rfl
  .rw[ah (by simpa using g),Qa0 g];rfl
 rw[ah (by simpa using hq),Qa0 hq];clear hq;by_cases hq:kd=8
 .rw[af (by simpa using hq),Qa1 hq];by_cases g:(Kerb.bc b).err=0
  .rw[af (by simpa using g),Qa1 g];rfl
  .rw[ah (by simpa using g),Qa0 g];rfl
 rw[ah (by simpa using hq),Qa0 hq];clear hq;by_cases hq:kd=9
 .rw[af (by simpa using hq),Qa1 hq];by_cases g:(Kerb.cq b).err=0
  .rw[af (by simpa using g),Qa1 g];rfl
  .rw[ah (by simpa using g),Qa0 g];rfl
 rw[ah (by simpa using hq),Qa0 hq];clear hq;by_cases hq:kd=10
 .rw[af (by simpa using hq),Qa1 hq];by_cases g:(Kerb.cc b).err=0
  .rw[af (by simpa using g),Qa1 g];rfl
  .rw[ah (by simpa using g),Qa0 g];rfl
 rw[ah (by simpa using hq),Qa0 hq];clear hq;rfl
theorem w38:Wk 38 7 WO:=by
 refine cw Tryz.func38 λ_ _ _ h=> ?_;unfold WO at h;split at h;case h_2=>cases h
 rename_i kd bx se gV de li hw;cases h;refine c6 (Zy (Lc [Zq [gV,de]] []) (kA λcs=>aq cs λb r=>aI r λbW r=>aI r λeg r=>aI r λeG r=>ag AI r λn r=>ag AT r λbf r=>ag AI r λbL r=>ag AI r λdm r=>aI r λfG r=>aI r λgG r=>ak r (Zy (Ro [Yu [Zx b,Zu bW,Zu eg,Zu eG,Zz AI n,Zz AT (Xn de),Zz AI bL,Zz AI dm,Zu fG,Zu gG],Zz AT (Wq (UInt8.ofNat (Yf (Zv .u8 (Xu (Yd de:Int) (↑(Yd (8:UInt8)):Int))))))] []) (kT λvs=>aW vs λb r=>ag AI r λn r=>ak r (Zp (Zq b,[])))))) ?_;delta kT kA;dsimp only[Lc,Ro,aI,aW,aq,cO,ag,bH,dc];have L:∀ b:List UInt8,b.length<=39->Zk (b.length<=9223372036854775807)=Yj:=λb h=>Qa4 (by omega);have k1:∀ n,Zk (0<=Wq n)=Yj:=λn=>Qa4 (Kerb.p9 n).1;have k2:∀ n,Zk (Wq n<18446744073709551616)=Yj:=λn=>Qa4 (Kerb.p9 n).2;have s1:∀ n,Zk (0<=Xn n)=Yj:=λn=>Qa4 (Kerb.rZ n).1;have s2:∀ n,Zk (Xn n<18446744073709551616)=Yj:=λn=>Qa4 (Kerb.rZ n).2;have e0:Zk ([gV,de].length<=4611686018427387904)=Yj:=rfl;obtain⟨l1,l2,l3,l4,l5⟩:=Kerb.CY [gV,de];simp only[↓A0,A0,e0,L _ l1,L _ l2,L _ l3,L _ l4,L _ l5,k1,k2,s1,s2,Yb];unfold Kerb.o7 Kerb.Yt;generalize Kerb.aG [gV,de]=T;cases T;rfl
theorem w47:Wk 47 7 DM:=by
 refine cw Tryz.func47 λ_ _ _ h=> ?_;unfold DM at h;split at h;case h_2=>cases h
 rename_i bs;obtain⟨ay,rfl⟩:=dg h;refine c6 (Zy (bD (λst=>aA st λx r=>AV.aX x λb=>bH 1 r λbW r=>ag AI r λn r=>ag AI r λbf r=>ak r (aE (Zk (bf<n)) (aB (Zk (0<=bf)&&Zk (bf<(Zw bW:Int))&&Yj) (AV.cS (List.getD bW (Yf bf) AV.undef) λeg=>Zy (IU [Zq eg] []) (kL λeG=>aE eG (aB (room (Zw b+Zw [Zq eg]) (nat_lit 24)) (Zp (Wx [Xw (b++[Zq eg]),Yq 1 bW,Zz AI n,Zz AI (Zv AI (bf+1))]))) (Zp (Wx [Xw b,Yq 1 bW,Zz AI n,Zz AI (Zv AI (bf+1))]))))) (Zp (Sum.inr (Ex.exit 0,[Xw b,Yq 1 bW,Zz AI n,Zz AI bf]))))) [Xw [],Yq 1 bs,Zz AI (Zw bs:Int),Zz AI 0]) λ(r:Ex×List AV)=>aA (Zd r) λx dj=>AV.aX x λb=>bH 1 dj λbW dr=>ag AI dr λn dH=>ag AI dH λn eK=>ak eK (jl r.1 none λj=>aE (Nat.beq j 0) (Zp (Yq 1 b,[])) none)) ?_;delta kL;dsimp only[IU,aI,aW,aq,cO,ag,bH,dc];obtain⟨l,rfl,hl,hn⟩:=Kerb.F4 ay;rw[Kerb.hJ];refine Kerb.l9 (λi=>[.aH (Wy (Kerb.gC (l.take i))),.sl 1 (Wy l),.int AI ((Wy l).length:Int),.int AI (i:Int)]) l.length (λi hi=> ?_) ⟨(.exit 0,[.aH (Wy (Kerb.gC l)),.sl 1 (Wy l),.int AI ((Wy l).length:Int),.int AI (l.length:Int)]),?_,?_⟩ rfl
 .have hm:(Kerb.gC (l.take i)).length<=100000000:=Yp (List.length_filter_le _ _) (by rw[List.length_take];omega);have g3:Zk ((l.getD i []).length<=140737488355328)=Yj:=by have:=hl _ (Kerb.lv [] hi);exact Qa4 (by omega)
  try dsimp only
  simp only[↓A0,A0,Kerb.Ht,Kerb.XL hi,Kerb.MY hi,g3,Yb,Bool.and_true,Kerb.yS (show i<=1000000000 by omega),Kerb.cG (Kerb.gC _),List.length_singleton,Kerb.Co hm,Kerb.vj];rw[Kerb.xA hi];cases Kerb.oF (l.getD i [])<;>rfl
 .try dsimp only
  simp only[↓A0,A0,Kerb.Tp,List.take_length]
 .rfl
theorem aeG:Wk 124 7 I1:=by
 refine cw Tryz.func124 λ_ _ _ h=> ?_;unfold I1 at h;split at h;case h_2=>cases h
 rename_i b;obtain⟨ay,rfl⟩:=dg h;refine c6 (aE (!Zd (Xv b [9])==0) (Zp (Yz [Yu [Zz AI 0,Zz AI 0,Zq []],Zz AI (Zd (Xv b [9]))],[])) (Zy (yH [Yg 0 0] [(0,[Zq b,Zz AI 2,Zx Yw])]) λr=>aC (Zd r) λx dj=>aW x λbW dr=>ag AI dr λn dH=>aq dH λeg eK=>ak eK (aD dj (Xy AI (Zg r) λbf=>Zy (yH [Yg 0 0] [(0,[Zq bW,Zz AI n,Zx eg])]) λr=>aC (Zd r) λx fL=>aW x λeG f_=>ag AI f_ λn g7=>aq g7 λfG iA=>ak iA (aD fL (Xy AI (Zg r) λbL=>Zy (Jg [Yg 0 0] [(0,[Zq eG,Zz AI n,Zx fG])]) λr=>aC (Zd r) λx io=>aW x λgG dA=>ag AI dA λn eC=>aq eC λh_ eD=>ak eD (aD io (Xy AI (Zg r) λdm=>Zy (tC [Yg 0 0,Zz AI dm] [(0,[Zq gG,Zz AI n,Zx h_])]) λr=>aC (Zd r) λx fl=>aW x λgY fz=>ag AI fz λn fA=>aq fA λjH fS=>ak fS (aD fl (AV.cS (Zg r) λj7=>aE jH (Zp (Yz [Yu [Zz AI 0,Zz AI 0,Zq []],Zz AI 100],[])) (aE (!Kerb.ll.err (Kerb.bw (Kerb.iI.mk (Zv AI (bf-128)) bL j7))==0) (Zp (Yz [Yu [Zz AI 0,Zz AI 0,Zq []],Zz AI 100],[])) (aE (!Kerb.ll.val (Kerb.bw (Kerb.iI.mk (Zv AI (bf-128)) bL j7))==b) (Zp (Yz [Yu [Zz AI 0,Zz AI 0,Zq []],Zz AI 100],[])) (Zp (Yz [Yu [Zz AI (Zv AI (bf-128)),Zz AI bL,Zq j7],Zz AI 0],[])))))))))))))) ?_;dsimp only[tC,yH,Jg,aI,aW,aq,cO,ag,bH,dc];have hb:=Qa3 ay;simp only[A0];by_cases h:(Xv b [9]).2=0;case neg =>
  rw[af (by simpa using h)];unfold Kerb.cD;rw[Qa1 h];rfl
 have hd:Kerb.cD b=Kerb.eN Kerb.mD Kerb.bw Kerb.pC b:=by unfold Kerb.cD;rw[Qa0 (by simpa using h)]
 rw[ah (by simp[h]),hd];have hg:=Kerb.Tx b 1 2 Yw (by omega);rw[ae ay,ae ay,ae ay,ae ay,wrap_i64 (by omega) (by omega)];exact Kerb.c9 (no:=Kerb.mD) (enc:=Kerb.bw) (rd:=Kerb.pC) _ _ rfl (λx e=>(Yz [Yu [Zz Zb (x).op,Zz Zb (x).code,Zq (x).box],Zz Zb e],([]:aO)))
theorem afy:Wk 189 7 CE:=by
 refine cw Tryz.func189 λ_ _ _ h=> ?_;unfold CE at h;split at h;case h_2=>cases h
 rename_i li mu kv rl tk au;obtain⟨ay,rfl⟩:=dg h;refine c6 (Zy (aB (dc rl) (Zp (Zx (Kerb.dO rl),[]))) (kL λb=>aE (!b) (Zp (Yz [Zq [],Zz AI 103],[])) (aE (!Zn kv 255) (Zp (Yz [Zq [],Zz AI 104],[])) (aE (Zk ((Zw tk:Int)>255)) (Zp (Yz [Zq [],Zz AI 105],[])) (aE (Zk ((Zw au:Int)>255)) (Zp (Yz [Zq [],Zz AI 105],[])) (aE mu (Zy (aB (Zk (Zw (Xk 4 li)<=70368744177664)) (Zp (Xq (Xk 4 li++Yk kv 1 Yw),[]))) (kO λl=>Zy (aB (Zk (Zw l+Zw rl<=70368744177664)) (Zp (Xq (Kerb.bz l rl),[]))) (kO λl=>Zy (aB (Zk (Zw l<=70368744177664)) (Zp (Xq (l++Yk (Zw tk:Int) 1 Yw),[]))) (kO λl=>Zy (aB (Zk (Zw l<=70368744177664)) (Zp (Xq (l++Yk (Zw au:Int) 1 Yw),[]))) (kO λl=>Zy (aB (Zk (Zw (Yy l (Yy tk (Yy au [])))<=140737488355328)&&Zk (Zw [Zq l,Zq tk,Zq au]<=1000)) (Zp (Xq (Yy l (Yy tk (Yy au []))),[]))) (kO λl=>Zp (Yz [Zq l,Zz AI 0],[]))))))) (Zy (aB (Zk (Zw (Xk 3 li)<=70368744177664)) (Zp (Xq (Xk 3 li++Yk kv 1 Yw),[]))) (kO λl=>Zy (aB (Zk (Zw l+Zw rl<=70368744177664)) (Zp (Xq (Kerb.bz l rl),[]))) (kO λl=>Zy (aB (Zk (Zw l<=70368744177664)) (Zp (Xq (l++Yk (Zw tk:Int) 1 Yw),[]))) (kO λl=>Zy (aB (Zk (Zw l<=70368744177664)) (Zp (Xq (l++Yk (Zw au:Int) 1 Yw),[]))) (kO λl=>Zy (aB (Zk (Zw (Yy l (Yy tk (Yy au [])))<=140737488355328)&&Zk (Zw [Zq l,Zq tk,Zq au]<=1000)) (Zp (Xq (Yy l (Yy tk (Yy au []))),[]))) (kO λl=>Zp (Yz [Zq l,Zz AI 0],[]))))))))))))) ?_;delta kO kL;dsimp only[dc];simp only[A0,Yn,Xz,Kerb.eL.av,ay];unfold Kerb.bh;simp only;cases h1:Kerb.dO rl
 .rfl
 rw[Zf,aF,Qa0 (by simp)];cases h2:Zn kv 255
 .rfl
 rw[Zf,aF,Qa0 (by simp)];by_cases h3:255<tk.length
 .rw[af (by simp;omega),Qa1 (.inl h3)]
 rw[ah (by simp;omega)];by_cases h4:255<au.length
 .rw[af (by simp;omega),Qa1 (.inr h4)]
 rw[ah (by simp;omega),Qa0 (by omega)];have l1:=Kerb.gm h1;have g3:=Kerb.kR 3 li;have g4:=Kerb.kR 4 li;cases mu
 .rw[aF,ae (by simp;omega),ae (by simp[Zh];omega),ae (by simp[Zh,Kerb.cf];omega),ae (by simp[Zh,Kerb.cf];omega),ae (by simp[Zh,Kerb.cf];omega)];simp
 .rw[b_,ae (by simp;omega),ae (by simp[Zh];omega),ae (by simp[Zh,Kerb.cf];omega),ae (by simp[Zh,Kerb.cf];omega),ae (by simp[Zh,Kerb.cf];omega)];simp
theorem afS:Wk 209 7 nU:=by
 refine cw Tryz.func209 λ_ _ _ h=> ?_;unfold nU at h;split at h;case h_2=>cases h
 rename_i a b c;obtain⟨ay,rfl⟩:=dg h;refine c6 (Zy (vg [Zu a] []) (kL λbW=>aE bW (Zy (sc [Zu b] []) (kL λb=>aE b (Zy (CM [Zu c] []) (kL λb=>Zp (Zx b,[]))) (Zp (Zx Yw,[])))) (Zp (Zx Yw,[])))) ?_;delta kL;dsimp only[CM,vg,sc,aI,aW,aq,cO,ag,bH,dc];simp only[Zj,Qa2] at ay;simp only[A0];rw[ae (by simp;omega),ae (by simp;omega),ae (by simp;omega)];simp only[Kerb.bn.valid];cases Ww a<;>cases Kerb.cA b<;>rfl
theorem agw:GL Tryz.prog G 259 7 [.sl 1,.int AI,.int AI,.int AI] u7:=by
 refine⟨λxs bl=> ?_,Tryz.f259,Tryz.func259,by decide +kernel,rfl,λmn xs bl r h=> ?_⟩
 .cases h:u7 0 xs bl with
  | none=>rfl
  | some r =>
   unfold u7 at h;split at h
   .obtain⟨ay,_⟩:=aL h;simp only[Zj,Qa2] at ay;omega
   .cases h
 unfold u7 at h;split at h
 .rename_i a b l els;obtain⟨ay,h2⟩:=aL h;cases h2;show w_ ((G.cut 259 7 [.sl 1,.int AI,.int AI,.int AI] (u7 mn)).env 259 8) G.rts (G.own 259) Tryz.f259 _ _ [0]=_
  refine Qb3 (b:=(Zy (bD (λst=>aA st λx r=>AV.aX x λy=>ag AI r λn r=>ag AI r λbf r=>ag AI r λbL r=>aq r λb r=>aq r λbW r=>ak r (aE (Zk (Zv AI (bf-n)<=12)) (Zy (Jw [Xm 0 27 1,Zz AI n,Zz AI bf] [(0,y)]) λ(r:AV×aO)=>aC (Zd r) λ(x:List AV) (dj:List (List AV))=>aD dj (AV.gx (Zg r) λvs=>ak vs (Zp (Sum.inr (Ex.ret,[Xw x,Zz AI n,Zz AI bf,Zz AI bL,Zx b,Zx bW]))))) (aE (bL==0) (Zy (Jx [Xm 0 27 1,Zz AI n,Zz AI bf] [(0,y)]) λ(r:AV×aO)=>aC (Zd r) λ(x:List AV) (dj:List (List AV))=>aD dj (AV.gx (Zg r) λvs=>ak vs (Zp (Sum.inr (Ex.ret,[Xw x,Zz AI n,Zz AI bf,Zz AI bL,Zx b,Zx bW]))))) (Zy (aE (!b) (Zy (Jy [Xm 0 27 1,Zz AI n,Zz AI bf] [(0,y)]) λ(r:AV×aO)=>aC (Zd r) λ(x:List AV) (dj:List (List AV))=>aD dj (AV.gx (Zg r) λvs=>ak vs (Zp [Xw x,Zz AI n,Zz AI bf,Zz AI (Zv AI (bL-1)),Zx b,Zx bW,Zz AI (Zv AI (bf-n))]))) (Zp [Xw y,Zz AI n,Zz AI bf,Zz AI bL,Zx b,Zx bW,Zz AI (Zv AI (bf-n))])) λl=>aA l λx r=>AV.aX x λy=>ag AI r λn r=>ag AI r λdm r=>ag AI r λbU r=>aq r λb r=>aq r λeg r=>ag AI r λbO r=>ak r (Zy (Jz [Xm 0 27 1,Zz AI n,Zz AI dm] [(0,y)]) λ(r:AV×aO)=>aC (Zd r) λ(x:List AV) (dj:List (List AV))=>aD dj (AV.gx (Zg r) λvs=>aA vs λx_1 r=>Xy AI x_1 λfI=>aA r λx_2 r=>Xy AI x_2 λfZ=>ak r (Zy (aE (fZ==2) (Zy (JA [Xm 0 27 1,Zz AI n,Zz AI dm] [(0,x)]) λ(r:AV×aO)=>aC (Zd r) λ(x:List AV) (dr:List (List AV))=>aD dr (AV.gx (Zg r) λvs=>ak vs (Zp [Xw x,Zz AI n,Zz AI dm,Zz AI bU,Zx b,Zx eg,Zz AI bO,Zz AI (Zv AI (Zv AI (dm-1)-Zv AI (fI-n))),Zz AI 1]))) (Zp [Xw x,Zz AI n,Zz AI dm,Zz AI bU,Zx b,Zx eg,Zz AI bO,Zz AI fI,Zz AI fZ])) λl=>aA l λx r=>AV.aX x λy=>ag AI r λn r=>ag AI r λiN r=>ag AI r λkY r=>aq r λb r=>aq r λeG r=>ag AI r λkr r=>ag AI r λgJ r=>ag AI r λjA r=>ak r (Zy (aE b (aE eG (Zp [Xw y,Zz AI n,Zz AI iN,Zz AI kY,Zx b,Zx eG,Zz AI kr,Zz AI gJ,Zx (jA==1)]) (Zp [Xw y,Zz AI n,Zz AI iN,Zz AI kY,Zx b,Zx eG,Zz AI kr,Zz AI gJ,Zx Yw])) (Zp [Xw y,Zz AI n,Zz AI iN,Zz AI kY,Zx b,Zx eG,Zz AI kr,Zz AI gJ,Zx Yw])) λl=>aA l λx r=>AV.aX x λy=>ag AI r λn r=>ag AI r λgO r=>ag AI r λbI r=>aq r λb r=>aq r λfG r=>ag AI r λjg r=>ag AI r λgj r=>aq r λgG r=>ak r (aE gG (Zy (Zy (JB [Xm 0 27 1,Zz AI n,Zz AI gO] [(0,y)]) λ(r:AV×aO)=>aC (Zd r) λ(x:List AV) (dr:List (List AV))=>aD dr (AV.dd (Zg r) λh_=>Zp [Xw x,Zz AI n,Zz AI gO,Zz AI bI,Zx b,Zx fG,Zz AI jg,Zz AI gj,Zx h_])) λl=>aA l λx r=>AV.aX x λy=>ag AI r λn r=>ag AI r λdW r=>ag AI r λbT r=>aq r λb r=>aq r λh_ r=>ag AI r λra r=>ag AI r λre r=>aq r λgY r=>ak r (aE gY (Zp (Sum.inr (Ex.ret,[Xw y,Zz AI n,Zz AI dW,Zz AI bT,Zx b,Zx h_]))) (Zy (aE (Zk (n>0)) (aB (Zk (0<=Zv AI (n-1))&&Zk (Zv AI (n-1)<(Zw y:Int))&&Yj) (aB (Nat.blt (Yf (Zv AI (n-1))) (Zw y)&&Yj) (Xy AT (List.getD y (Yf (Zv AI (n-1))) AV.undef) λjJ=>aB (Zk (0<=re)&&Zk (re<(Zw y:Int))&&Yj) (aB (Nat.blt (Yf re) (Zw y)&&Yj) (Xy AT (List.getD y (Yf re) AV.undef) λvN=>Zp [Xw y,Zz AI n,Zz AI dW,Zz AI bT,Zx b,Zx h_,Zz AI ra,Zz AI re,Zx !Zk (jJ<vN)]))))) (Zp [Xw y,Zz AI n,Zz AI dW,Zz AI bT,Zx b,Zx h_,Zz AI ra,Zz AI re,Zx Yw])) λl=>aA l λx r=>AV.aX x λy=>ag AI r λn r=>ag AI r λjJ r=>ag AI r λvN r=>aq r λb r=>aq r λjH r=>ag AI r λQd r=>ag AI r λQe r=>aq r λj7 r=>ak r (aE j7 (Zy (EM [Xm 0 27 1,Zz AI n,Zz AI jJ,Zz AI Qe] [(0,y)]) λ(r:AV×aO)=>aC (Zd r) λ(x:List AV) (dr:List (List AV))=>aD dr (Xy AI (Zg r) λn=>Zp (Wx [Xw x,Zz AI n,Zz AI jJ,Zz AI vN,Zx b,Zx jH]))) (Zy (EN [Xm 0 27 1,Zz AI n,Zz AI jJ,Zz AI Qe] [(0,y)]) λ(r:AV×aO)=>aC (Zd r) λ(x:List AV) (dr:List (List AV))=>aD dr (AV.gx (Zg r) λvs=>aA vs λx_3 r=>Xy AI x_3 λH'=>aA r λx_4 r=>AV.dd x_4 λb=>ak r (aE (Zk (Zv AI (H'-n)<Zv AI (jJ-H'))) (Zy (u7 mn [Xm 0 27 1,Zz AI n,Zz AI H',Zz AI vN] [(0,x)]) λ(r:AV×aO)=>aC (Zd r) λ(x:List AV) (dH:List (List AV))=>aD dH (AV.gx (Zg r) λvs=>ak vs (Zp (Wx [Xw x,Zz AI (Zv AI (H'+1)),Zz AI jJ,Zz AI vN,Zx (Zk (Zv AI (H'-n)>=Zv AI (Xu Qd 8))),Zx b])))) (Zy (u7 mn [Xm 0 27 1,Zz AI (Zv AI (H'+1)),Zz AI jJ,Zz AI vN] [(0,x)]) λ(r:AV×aO)=>aC (Zd r) λ(x:List AV) (dH:List (List AV))=>aD dH (AV.gx (Zg r) λvs=>ak vs (Zp (Wx [Xw x,Zz AI n,Zz AI H',Zz AI vN,Zx (Zk (Zv AI (jJ-H')>=Zv AI (Xu Qd 8))),Zx b]))))))))))) (Zy (aE (Zk (n>0)) (aB (Zk (0<=Zv AI (n-1))&&Zk (Zv AI (n-1)<(Zw y:Int))&&Yj) (aB (Nat.blt (Yf (Zv AI (n-1))) (Zw y)&&Yj) (Xy AT (List.getD y (Yf (Zv AI (n-1))) AV.undef) λdW=>aB (Zk (0<=gj)&&Zk (gj<(Zw y:Int))&&Yj) (aB (Nat.blt (Yf gj) (Zw y)&&Yj) (Xy AT (List.getD y (Yf gj) AV.undef) λbT=>Zp [Xw y,Zz AI n,Zz AI gO,Zz AI bI,Zx b,Zx fG,Zz AI jg,Zz AI gj,Zx !Zk (dW<bT)]))))) (Zp [Xw y,Zz AI n,Zz AI gO,Zz AI bI,Zx b,Zx fG,Zz AI jg,Zz AI gj,Zx Yw])) λl=>aA l λx r=>AV.aX x λy=>ag AI r λn r=>ag AI r λdW r=>ag AI r λbT r=>aq r λb r=>aq r λh_ r=>ag AI r λra r=>ag AI r λre r=>aq r λgY r=>ak r (aE gY (Zy (EM [Xm 0 27 1,Zz AI n,Zz AI dW,Zz AI re] [(0,y)]) λ(r:AV×aO)=>aC (Zd r) λ(x:List AV) (dr:List (List AV))=>aD dr (Xy AI (Zg r) λn=>Zp (Wx [Xw x,Zz AI n,Zz AI dW,Zz AI bT,Zx b,Zx h_]))) (Zy (EN [Xm 0 27 1,Zz AI n,Zz AI dW,Zz AI re] [(0,y)]) λ(r:AV×aO)=>aC (Zd r) λ(x:List AV) (dr:List (List AV))=>aD dr (AV.gx (Zg r) λvs=>aA vs λx_3 r=>Xy AI x_3 λjJ=>aA r λx_4 r=>AV.dd x_4 λb=>ak r (aE (Zk (Zv AI (jJ-n)<Zv AI (dW-jJ))) (Zy (u7 mn [Xm 0 27 1,Zz AI n,Zz AI jJ,Zz AI bT] [(0,x)]) λ(r:AV×aO)=>aC (Zd r) λ(x:List AV) (dH:List (List AV))=>aD dH (AV.gx (Zg r) λvs=>ak vs (Zp (Wx [Xw x,Zz AI (Zv AI (jJ+1)),Zz AI dW,Zz AI bT,Zx (Zk (Zv AI (jJ-n)>=Zv AI (Xu ra 8))),Zx b])))) (Zy (u7 mn [Xm 0 27 1,Zz AI (Zv AI (jJ+1)),Zz AI dW,Zz AI bT] [(0,x)]) λ(r:AV×aO)=>aC (Zd r) λ(x:List AV) (dH:List (List AV))=>aD dH (AV.gx (Zg r) λvs=>ak vs (Zp (Wx [Xw x,Zz AI n,Zz AI jJ,Zz AI bT,Zx (Zk (Zv AI (dW-jJ)>=Zv AI (Xu ra 8))),Zx b])))))))))))))))))) [Xw els,Zz AI a,Zz AI b,Zz AI l,Zx Yj,Zx Yj]) λ(r:Ex×List AV)=>aA (Zd r) λx dj=>AV.aX x λy=>ag AI dj λn dr=>ag AI dr λn dH=>ag AI dH λn eK=>aq eK λb fL=>aq fL λb f_=>ak f_ (jl r.1 (Zp (Yz [],[y])) λ(j:Nat)=>none):Option (AV×aO))) (by kernel_rfl) ?_
  dsimp only[u7,Jw,Jx,Jy,Jz,JA,JB,EM,EN,aI,aW,aq,cO,ag,bH,dc];simp only[Xp,Zj,Qa2] at ay;obtain⟨⟨⟨⟨⟨⟨⟨ig,hlen⟩,JO⟩,xe⟩,hb⟩,XE⟩,Bu⟩,Ve⟩:=ay;obtain⟨d,rfl,hd⟩:=Kerb.nq ig;simp only[Yh] at hlen hb;obtain⟨a,rfl⟩:=Xj (show 0<=a by omega);obtain⟨b,rfl⟩:=Xj (show 0<=b by omega);obtain⟨l,rfl⟩:=Xj (show 0<=l by omega);rw[Kerb.rV];obtain⟨P0,hP⟩:∃ P0,P0=Go.Sort.pdq Go.Sort.ltInt d a b l Yj Yj:=⟨_,rfl⟩;rw[<-hP];refine bQ (λs:Array Int×Nat×Nat×Nat×Bool×Bool=>[Xw (Xb s.1),Zz AI (s.2.1:Int),Zz AI (s.2.2.1:Int),Zz AI (s.2.2.2.1:Int),Zx s.2.2.2.2.1,Zx s.2.2.2.2.2]) (λs=>s.1.size=d.size/\s.2.1<=s.2.2.1/\s.2.2.1<=d.size/\s.2.2.2.1<=64/\s.2.2.1-s.2.1<=mn/\Go.Sort.pdq Go.Sort.ltInt s.1 s.2.1 s.2.2.1 s.2.2.2.1 s.2.2.2.2.1 s.2.2.2.2.2=P0) (λs=>s.2.2.1-s.2.1) (λr=>∃ n1 n2 n3 b1 b2,r=(.ret,[Xw (Xb P0),Zz AI n1,Zz AI n2,Zz AI n3,Zx b1,Zx b2])) (d,a,b,l,Yj,Yj) ⟨rfl,by dsimp only;omega,by dsimp only;omega,by dsimp only;omega,by dsimp only;omega,hP.symm⟩ rfl ?_ ?_
  .clear hP xe XE Bu Ve JO hb;rintro⟨e,a,b,l,wB,wP⟩ ⟨hs,xe,hb,hl,Ve,hr⟩;dsimp only at hs xe hb hl Ve hr ⊢;simp only[↓bX,↓cH,↓dx,↓dR,↓dC];rw[show Zv AI ((b:Int)-(a:Int))=((b-a:Nat):Int) from(Ym (by omega) (by omega)).trans (by omega)];rw[Kerb.zJ] at hr;by_cases YK:b-a<=12
   .rw[Qa1 YK] at hr;rw[af (by simp;omega),ae (by simp only[Xp,Xx,Yh,Zj,Qa2,Qa9,Qa8];omega)];simp only[↓gy,↓fm,↓bX,↓cH,↓hF,↓lF,↓dx,↓dR,↓dC];rw[Kerb.PP,hr];exact⟨_,rfl,_,_,_,_,_,rfl⟩
   rw[Qa0 YK] at hr;rw[ah (by simp;omega)];by_cases XE:l=0
   .rw[Qa1 XE] at hr;rw[af (by simp;omega),ae (by simp only[Xp,Xx,Yh,Zj,Qa2,Qa9,Qa8];omega)];simp only[↓gy,↓fm,↓bX,↓cH,↓hF,↓lF,↓dx,↓dR,↓dC];rw[Kerb.M4,hr];exact⟨_,rfl,_,_,_,_,_,rfl⟩
   rw[Qa0 XE] at hr;rw[ah (by simp;omega)];obtain⟨d1,Vc⟩:∃ d1,d1=(if (!wB)=Yj then Go.Sort.breakPatterns e a b else e):=⟨_,rfl⟩;obtain⟨l1,Bu⟩:∃ l1,l1=(if (!wB)=Yj then l-1 else l):=⟨_,rfl⟩;rw[<-Vc,<-Bu] at hr;refine Kerb.xP (v:=[Xw (Xb d1),Zz AI (a:Int),Zz AI (b:Int),Zz AI (l1:Int),Zx wB,Zx wP,Zz AI ((b-a:Nat):Int)]) ?_ ?_
   .cases wB
    .rw[Qa1 (show(!Yw)=Yj from rfl)] at Vc Bu;rw[af (show(!Yw)=Yj from rfl),ae (by simp only[Xp,Xx,Yh,Zj,Qa2,Qa9,Qa8];omega)];simp only[↓gy,↓fm,↓bX,↓cH,↓hF,↓lF,↓dx,↓dR,↓dC];rw[Kerb.J4,Vc,Bu,show Zv AI ((l:Int)-1)=((l-1:Nat):Int) from(Ym (by omega) (by omega)).trans (by omega)]
    .rw[Qa0 (by decide)] at Vc Bu;rw[ah (show(!Yj)=Yw from rfl),Vc,Bu]
   have s1:d1.size=d.size:=by
    rw[Vc];split
    .rw[Kerb.Ba xe (by omega),hs]
    .exact hs
   have ajk:l1<=64:=by
    rw[Bu];split<;>omega
   clear Vc Bu;simp only[↓bX,↓cH,↓dx,↓dR,↓dC];rw[ae (by simp only[Xp,Xx,Yh,Zj,Qa2,Qa9,Qa8];omega)];simp only[↓gy,↓fm,↓bX,↓cH,↓hF,↓lF,↓dx,↓dR,↓dC];rw[Kerb.NQ];unfold Kerb.Pw at hr;have hc:=Go.Sort.choosePivot_holds Go.Sort.ltInt d1 a b (by omega);generalize Go.Sort.choosePivot Go.Sort.ltInt d1 a b=c at hc hr ⊢;obtain⟨d2,Pt⟩:∃ d2,d2=(if c.2 = .decreasing then Go.Sort.reverseRange d1 a b else d1):=⟨_,rfl⟩;obtain⟨pv,Uc⟩:∃ pv,pv=(if c.2 = .decreasing then(b-1)-(c.1-a) else c.1):=⟨_,rfl⟩;obtain⟨ht,XA⟩:∃ ht,ht=(if c.2 = .decreasing then Go.Sort.Hint.increasing else c.2):=⟨_,rfl⟩;rw[<-Pt,<-Uc,<-XA] at hr;refine Kerb.xP (v:=[Xw (Xb d2),Zz AI (a:Int),Zz AI (b:Int),Zz AI (l1:Int),Zx wB,Zx wP,Zz AI ((b-a:Nat):Int),Zz AI (pv:Int),Zz AI (Kerb.HD ht)]) ?_ ?_
   .rw[Kerb.M7];by_cases hd:c.2 = .decreasing
    .rw[Qa1 hd] at Pt Uc XA;rw[af (by simpa using hd),ae (by simp only[Xp,Xx,Yh,Zj,Qa2,Qa9,Qa8];omega)];simp only[↓gy,↓fm,↓bX,↓cH,↓hF,↓lF,↓dx,↓dR,↓dC];rw[Kerb.QA,Pt,Uc,XA,show Zv AI ((b:Int)-1)=((b-1:Nat):Int) from(Ym (by omega) (by omega)).trans (by omega),show Zv AI ((c.1:Int)-(a:Int))=((c.1-a:Nat):Int) from(Ym (by omega) (by omega)).trans (by omega),show Zv AI (((b-1:Nat):Int)-((c.1-a:Nat):Int))=((b-1-(c.1-a):Nat):Int) from(Ym (by omega) (by omega)).trans (by omega)];rfl
    .rw[Qa0 hd] at Pt Uc XA;rw[ah (by simpa using hd),Pt,Uc,XA]
   have s2:d2.size=d.size:=by
    rw[Pt];split
    .rw[Kerb.IF xe (by omega),s1]
    .exact s1
   have AK:a<=pv:=by
    rw[Uc];split<;>omega
   have Bv:pv<b:=by
    rw[Uc];split<;>omega
   clear Pt Uc XA;simp only[↓bX,↓cH,↓dx,↓dR,↓dC];obtain⟨q,hq⟩:∃ q,q=(wB&&wP&&Zk (ht = .increasing)):=⟨_,rfl⟩;unfold Kerb.V8 at hr;rw[<-hq] at hr;refine Kerb.xP (v:=[Xw (Xb d2),Zz AI (a:Int),Zz AI (b:Int),Zz AI (l1:Int),Zx wB,Zx wP,Zz AI ((b-a:Nat):Int),Zz AI (pv:Int),Zx q]) ?_ ?_
   .rw[hq,Kerb.M8];cases wB<;>cases wP<;>simp[aE]
   simp only[↓bX,↓cH,↓dx,↓dR,↓dC];by_cases hqq:q=Yj
   .simp only[Qa1 hqq] at hr;rw[af hqq,ae (by simp only[Xp,Xx,Yh,Zj,Qa2,Qa9,Qa8];omega)];simp only[↓gy,↓fm,↓bX,↓cH,↓hF,↓lF,↓dx,↓dR,↓dC];rw[Kerb.Is];have s3:(Go.Sort.partialInsertionSort Go.Sort.ltInt d2 a b).1.size=d.size:=by
     unfold Go.Sort.partialInsertionSort;rw[Kerb.tu,s2]
    generalize Go.Sort.partialInsertionSort Go.Sort.ltInt d2 a b=pi at s3 hr ⊢;obtain⟨d3,dn⟩:=pi;dsimp only at s3 hr ⊢;by_cases hdn:dn=Yj
    .rw[Qa1 hdn] at hr;rw[af hdn,hr];exact⟨_,rfl,_,_,_,_,_,rfl⟩
    rw[Qa0 hdn] at hr;rw[ah (by simpa using hdn)];have wF:=hr;obtain⟨cB,Va⟩:∃ cB,cB=(Zk (a>0) && !Go.Sort.ltInt d3[a-1]! d3[pv]!):=⟨_,rfl⟩;rw[Kerb.CX AK Bv (by omega),<-Va] at wF;refine Kerb.xP (v:=[Xw (Xb d3),Zz AI (a:Int),Zz AI (b:Int),Zz AI (l1:Int),Zx wB,Zx wP,Zz AI ((b-a:Nat):Int),Zz AI (pv:Int),Zx cB]) ?_ ?_
    .by_cases a0:a>0
     .have g1:a-1<d3.size:=by omega
      have g2:pv<d3.size:=by omega
      rw[af (by simp;omega)];simp only[show Zv AI ((a:Int)-1)=((a-1:Nat):Int) from(Ym (by omega) (by omega)).trans (by omega)];rw[Kerb.rd g1,Kerb.rd g2,Va];simp[a0,Go.Sort.ltInt]
     .rw[ah (by simp;omega),Va];simp[a0]
    simp only[↓bX,↓cH,↓dx,↓dR,↓dC];by_cases Dr:cB=Yj
    .rw[Qa1 Dr] at wF;rw[af Dr,ae (by simp only[Xp,Xx,Yh,Zj,Qa2,Qa9,Qa8];omega)];simp only[↓gy,↓fm,↓bX,↓cH,↓hF,↓lF,↓dx,↓dR,↓dC];rw[Kerb.wT];have e:=Kerb.pn AK Bv (show b<=d3.size by omega);generalize Go.Sort.partitionEqual Go.Sort.ltInt d3 a b pv=x at e wF ⊢;exact⟨_,rfl,(x.2,x.1,b,l1,wB,wP),rfl,⟨by dsimp only;omega,by dsimp only;omega,by dsimp only;omega,by dsimp only;omega,by dsimp only;omega,wF⟩,by dsimp only;omega⟩
    rw[Qa0 Dr] at wF;rw[ah (by simpa using Dr),ae (by simp only[Xp,Xx,Yh,Zj,Qa2,Qa9,Qa8];omega)];simp only[↓gy,↓fm,↓bX,↓cH,↓hF,↓lF,↓dx,↓dR,↓dC];simp only[Kerb.Cc];have p:=Kerb.sV AK Bv (show b<=d3.size by omega);generalize Go.Sort.partition Go.Sort.ltInt d3 a b pv=x at p wF ⊢;obtain⟨m,ap,d4⟩:=x;dsimp only at p wF ⊢;obtain⟨p1,p2,p3⟩:=p;rw[show Zv AI ((m:Int)-(a:Int))=((m-a:Nat):Int) from(Ym (by omega) (by omega)).trans (by omega),show Zv AI ((b:Int)-(m:Int))=((b-m:Nat):Int) from(Ym (by omega) (by omega)).trans (by omega)];have ht:Zv AI (Xu ((b-a:Nat):Int) 8)=(((b-a) / 8:Nat):Int):=Ym (n:=(((b-a) / 8:Nat):Int)) (by omega) (by omega);simp only[show Zv AI ((m:Int)+1)=((m+1:Nat):Int) from(Ym (by omega) (by omega)).trans (by omega),ht];by_cases hm:m-a<b-m
    .rw[Qa1 hm] at wF;rw[af (by simp;omega),ae (by simp only[Xp,Xx,Yh,Zj,Qa2,Qa9,Qa8];omega)];simp only[↓gy,↓fm,↓bX,↓cH,↓hF,↓lF,↓dx,↓dR,↓dC];simp only[Kerb.rV];have VV:=Kerb.uQ _ d4 a m l1 Yj Yj (Nat.le_refl _) p1 (by omega);generalize Go.Sort.pdq Go.Sort.ltInt d4 a m l1 Yj Yj=d5 at VV wF ⊢;refine⟨_,rfl,(d5,m+1,b,l1,Zk (m-a>=(b-a) / 8),ap),?_,⟨by dsimp only;omega,by dsimp only;omega,by dsimp only;omega,by dsimp only;omega,by dsimp only;omega,wF⟩,by dsimp only;omega⟩;dsimp only;rw[show(Zk (((m-a:Nat):Int)>=(((b-a) / 8:Nat):Int)))=Zk (m-a>=(b-a) / 8) from decide_eq_decide.mpr (by omega)]
    .rw[Qa0 hm] at wF;rw[ah (by simp;omega),ae (by simp only[Xp,Xx,Yh,Zj,Qa2,Qa9,Qa8];omega)];simp only[↓gy,↓fm,↓bX,↓cH,↓hF,↓lF,↓dx,↓dR,↓dC];simp only[Kerb.rV];have VV:=Kerb.uQ _ d4 (m+1) b l1 Yj Yj (Nat.le_refl _) (by omega) (by omega);generalize Go.Sort.pdq Go.Sort.ltInt d4 (m+1) b l1 Yj Yj=d5 at VV wF ⊢;refine⟨_,rfl,(d5,a,m,l1,Zk (b-m>=(b-a) / 8),ap),?_,⟨by dsimp only;omega,by dsimp only;omega,by dsimp only;omega,by dsimp only;omega,by dsimp only;omega,wF⟩,by dsimp only;omega⟩;dsimp only;rw[show(Zk (((b-m:Nat):Int)>=(((b-a) / 8:Nat):Int)))=Zk (b-m>=(b-a) / 8) from decide_eq_decide.mpr (by omega)]
   .simp only[Qa0 hqq] at hr;rw[Qa0 (by decide)] at hr;rw[ah (by simpa using hqq)];have s3:=s2;revert hr s3;generalize d2=d3;intro wF s3;obtain⟨cB,Va⟩:∃ cB,cB=(Zk (a>0) && !Go.Sort.ltInt d3[a-1]! d3[pv]!):=⟨_,rfl⟩;rw[Kerb.CX AK Bv (by omega),<-Va] at wF;refine Kerb.xP (v:=[Xw (Xb d3),Zz AI (a:Int),Zz AI (b:Int),Zz AI (l1:Int),Zx wB,Zx wP,Zz AI ((b-a:Nat):Int),Zz AI (pv:Int),Zx cB]) ?_ ?_
    .by_cases a0:a>0
     .have g1:a-1<d3.size:=by omega
      have g2:pv<d3.size:=by omega
      rw[af (by simp;omega)];simp only[show Zv AI ((a:Int)-1)=((a-1:Nat):Int) from(Ym (by omega) (by omega)).trans (by omega)];rw[Kerb.rd g1,Kerb.rd g2,Va];simp[a0,Go.Sort.ltInt]
     .rw[ah (by simp;omega),Va];simp[a0]
    simp only[↓bX,↓cH,↓dx,↓dR,↓dC];by_cases Dr:cB=Yj
    .rw[Qa1 Dr] at wF;rw[af Dr,ae (by simp only[Xp,Xx,Yh,Zj,Qa2,Qa9,Qa8];omega)];simp only[↓gy,↓fm,↓bX,↓cH,↓hF,↓lF,↓dx,↓dR,↓dC];rw[Kerb.wT];have e:=Kerb.pn AK Bv (show b<=d3.size by omega);generalize Go.Sort.partitionEqual Go.Sort.ltInt d3 a b pv=x at e wF ⊢;exact⟨_,rfl,(x.2,x.1,b,l1,wB,wP),rfl,⟨by dsimp only;omega,by dsimp only;omega,by dsimp only;omega,by dsimp only;omega,by dsimp only;omega,wF⟩,by dsimp only;omega⟩
    rw[Qa0 Dr] at wF;rw[ah (by simpa using Dr),ae (by simp only[Xp,Xx,Yh,Zj,Qa2,Qa9,Qa8];omega)];simp only[↓gy,↓fm,↓bX,↓cH,↓hF,↓lF,↓dx,↓dR,↓dC];simp only[Kerb.Cc];have p:=Kerb.sV AK Bv (show b<=d3.size by omega);generalize Go.Sort.partition Go.Sort.ltInt d3 a b pv=x at p wF ⊢;obtain⟨m,ap,d4⟩:=x;dsimp only at p wF ⊢;obtain⟨p1,p2,p3⟩:=p;rw[show Zv AI ((m:Int)-(a:Int))=((m-a:Nat):Int) from(Ym (by omega) (by omega)).trans (by omega),show Zv AI ((b:Int)-(m:Int))=((b-m:Nat):Int) from(Ym (by omega) (by omega)).trans (by omega)];have ht:Zv AI (Xu ((b-a:Nat):Int) 8)=(((b-a) / 8:Nat):Int):=Ym (n:=(((b-a) / 8:Nat):Int)) (by omega) (by omega);simp only[show Zv AI ((m:Int)+1)=((m+1:Nat):Int) from(Ym (by omega) (by omega)).trans (by omega),ht];by_cases hm:m-a<b-m
    .rw[Qa1 hm] at wF;rw[af (by simp;omega),ae (by simp only[Xp,Xx,Yh,Zj,Qa2,Qa9,Qa8];omega)];simp only[↓gy,↓fm,↓bX,↓cH,↓hF,↓lF,↓dx,↓dR,↓dC];simp only[Kerb.rV];have VV:=Kerb.uQ _ d4 a m l1 Yj Yj (Nat.le_refl _) p1 (by omega);generalize Go.Sort.pdq Go.Sort.ltInt d4 a m l1 Yj Yj=d5 at VV wF ⊢;refine⟨_,rfl,(d5,m+1,b,l1,Zk (m-a>=(b-a) / 8),ap),?_,⟨by dsimp only;omega,by dsimp only;omega,by dsimp only;omega,by dsimp only;omega,by dsimp only;omega,wF⟩,by dsimp only;omega⟩;dsimp only;rw[show(Zk (((m-a:Nat):Int)>=(((b-a) / 8:Nat):Int)))=Zk (m-a>=(b-a) / 8) from decide_eq_decide.mpr (by omega)]
    .rw[Qa0 hm] at wF;rw[ah (by simp;omega),ae (by simp only[Xp,Xx,Yh,Zj,Qa2,Qa9,Qa8];omega)];simp only[↓gy,↓fm,↓bX,↓cH,↓hF,↓lF,↓dx,↓dR,↓dC];simp only[Kerb.rV];have VV:=Kerb.uQ _ d4 (m+1) b l1 Yj Yj (Nat.le_refl _) (by omega) (by omega);generalize Go.Sort.pdq Go.Sort.ltInt d4 (m+1) b l1 Yj Yj=d5 at VV wF ⊢;refine⟨_,rfl,(d5,a,m,l1,Zk (b-m>=(b-a) / 8),ap),?_,⟨by dsimp only;omega,by dsimp only;omega,by dsimp only;omega,by dsimp only;omega,by dsimp only;omega,wF⟩,by dsimp only;omega⟩;dsimp only;rw[show(Zk (((b-m:Nat):Int)>=(((b-a) / 8:Nat):Int)))=Zk (b-m>=(b-a) / 8) from decide_eq_decide.mpr (by omega)]
  .rintro _ ⟨n1,n2,n3,b1,b2,rfl⟩;simp only[↓bX,↓cH,↓dx,↓dR,↓dC,↓TE]
 .cases h
theorem w14:Wk 14 8 I5:=by
 refine cw Tryz.func14 λ_ _ _ h=> ?_;unfold I5 at h;split at h;case h_2=>cases h
 rename_i kd bx se gV de li hw;obtain⟨ay,rfl⟩:=dg h
 refine c6 (let t2:Int:=Zv AI (1+Xf (Zv AI (Yd bx:Int)) 10);let t5:List AV:=[Zz AT (Xn gV),Zz AI 0,Zz AI 0,Zz AI 0];let t0:List AV:=[Zz AI t2];let t1:Option (List AV):=C67 [Yu [Zu [(67:UInt8),(80:UInt8),(87:UInt8),(108:UInt8)],Zz AI 0,Zz AI 0,Zz AI 0,Zz AT (Wq gV)]] λl n=>aE (UInt8.ofNat (Yf (Xf (Yd de:Int) (↑(Yd (2:UInt8)):Int)))==(1:UInt8)) (Zp (Zm kd::Zm bx::Zm se::Zm gV::Zm de::Zx li::Zz .u16 hw::Zq []::Zq (Kerb.ll.val (Kerb.aR (Kerb.eQ.mk [(103:UInt8),(84:UInt8),(71:UInt8),(83:UInt8)] 4 0 0 0)))::t0)) (Zp (Zm kd::Zm bx::Zm se::Zm gV::Zm de::Zx li::Zz .u16 hw::Zq []::Zq l::t0));let t3:Option (List AV):=Zp (Zm kd::Zm bx::Zm se::Zm gV::Zm de::Zx li::Zz .u16 hw::Zq []::Zq (Kerb.ll.val (Kerb.aZ (Kerb.fT.mk [(67:UInt8),(80:UInt8),(87:UInt8),(100:UInt8)] 0 0 0 0 0 (Kerb.bn.mk [] [] []) [])))::t0);let t4:Option (List AV):=Zp (Zm kd::Zm bx::Zm se::Zm gV::Zm de::Zx li::Zz .u16 hw::Zq []::Zq (Kerb.ll.val (Kerb.eB (Kerb.rp.mk [] 0 0 7) li))::t0);W8 [Zz AI (Zv AI (Yd bx:Int))] λb bW eg=>Zy (RZ [Zz AI (Zv AI (Yd bx:Int))] []) (kA λcs=>aI cs λeG r=>aI r λfG r=>aI r λgG r=>let t6:Option (List AV):=aE (t2==7) t1 (aE (t2==8) (C68 [Yu [Zu [(116:UInt8),(103:UInt8),(115:UInt8),(84:UInt8)],Zz AI 0,Zz AT (Xn gV),Zz AI 0,Zz AI 0,Zz AI 0,Zu eG,Zu fG,Zu gG,Zq (Kerb.o7 gV de)]] λb n=>aE (UInt8.ofNat (Yf (Xf (Yd de:Int) (↑(Yd (8:UInt8)):Int)))==(1:UInt8)) t3 (Zp (Zm kd::Zm bx::Zm se::Zm gV::Zm de::Zx li::Zz .u16 hw::Zq []::Zq b::t0))) (aE (t2==9) (C69 [Yu (Zu b::Zu bW::Zu eg::Zu eG::Zu fG::Zu gG::t5)] λb n=>Zp (Zm kd::Zm bx::Zm se::Zm gV::Zm de::Zx li::Zz .u16 hw::Zq []::Zq b::t0)) (C70 [Yu [Zz AT (Xn gV),Zu eG,Zu fG,Zu gG,Zz AI 0,Zz AI 0,Zq (Kerb.o7 gV de)]] λb n=>Zp (Zm kd::Zm bx::Zm se::Zm gV::Zm de::Zx li::Zz .u16 hw::Zq []::Zq b::t0))));ak r (Zy (aE (t2==1) (Zy (Lc [Zq [gV]] []) (kA λcs=>aq cs λb r=>aI r λh_ r=>aI r λgY r=>aI r λjH r=>ag AI r λn r=>ag AT r λbf r=>ag AI r λbL r=>ag AI r λdm r=>aI r λj7 r=>aI r λfF r=>ak r (W9 [Yu [Zx b,Zu h_,Zu gY,Zu jH,Zz AI n,Zz AT (Xn gV),Zz AI bL,Zz AI dm,Zu j7,Zu fF]] λb n=>Zp (Zm kd::Zm bx::Zm se::Zm gV::Zm de::Zx li::Zz .u16 hw::Zq []::Zq b::t0)))) (aE (t2==2) (Zy (R2 [Yu [Zu (Kerb.bn.name (Kerb.nJ.BY (Kerb.lI gV))),Zu (Kerb.bn.inst (Kerb.nJ.BY (Kerb.lI gV))),Zu (Kerb.bn.aK (Kerb.nJ.BY (Kerb.lI gV))),Zz AI (Kerb.nJ.dB (Kerb.lI gV)),Zz AI (Kerb.nJ.tick (Kerb.lI gV)),Zz AI (Kerb.nJ.time (Kerb.lI gV))],Zx li] []) (kT λvs=>aW vs λb r=>ag AI r λn r=>ak r (Zp (Zm kd::Zm bx::Zm se::Zm gV::Zm de::Zx li::Zz .u16 hw::Zq []::Zq b::t0)))) (aE (t2==3) (Zy (Lk [Yu [Zz AT (Xn gV),Zu eG,Zu fG,Zu gG,Zz AI 0,Zz AI 0,Zq (Kerb.o7 gV de),Zz AI 0],Zx li] []) (kT λvs=>aW vs λb r=>ag AI r λn r=>ak r (Zp (Zm kd::Zm bx::Zm se::Zm gV::Zm de::Zx li::Zz .u16 hw::Zq []::Zq b::t0)))) (aE (t2==4) (Zp (Zm kd::Zm bx::Zm se::Zm gV::Zm de::Zx li::Zz .u16 hw::Zq []::Zq (Kerb.ll.val (Kerb.fN (Kerb.JT.mk 5 0 0) li))::t0)) (aE (t2==5) (aE (t2==5) t4 t6) (aE (t2==6) t4 t6)))))) λl=>cO l λb r=>cO r λh_ r=>cO r λgY r=>cO r λjH r=>cO r λj7 r=>aq r λfF r=>ag .u16 r λn r=>aW r λfM r=>aW r λgB r=>ag AI r λbf r=>ak r (Zy (aE (Xf n 16==15) (Zy (Li [Zq gB,Zz .u16 (Zv .u16 (Xu n 16))] []) (kB λgf=>Zp [Zm b,Zm h_,Zm gY,Zm jH,Zm j7,Zx fF,Zz .u16 n,Zq fM,Zq gf,Zz AI bf])) (Zp [Zm b,Zm h_,Zm gY,Zm jH,Zm j7,Zx fF,Zz .u16 n,Zq fM,Zq gB,Zz AI bf])) λl=>cO l λb r=>cO r λb r=>cO r λb r=>cO r λgf r=>cO r λhO r=>aq r λiL r=>ag .u16 r λn r=>aW r λiE r=>aW r λiZ r=>ag AI r λn r=>ak r (W_ [Zz AI n,Zz AT (Wq b),Zq iZ] λb n=>Zp (Zq b,[])))))) ?_
 unfold W8 W9 C67 C68 C69 C70 W_;delta kT kA kB;dsimp only[Lc,Lf,Li,RZ,Lj,R2,Lk,Oh,Oi,Oj,Ol,Ll,aI,aW,aq,cO,ag,bH,dc];simp only[Zj,Qa2] at ay;have L:∀ b:List UInt8,b.length<=39->Zk (b.length<=9223372036854775807)=Yj:=λb h=>Qa4 (by omega);have k1:∀ n,Zk (0<=Wq n)=Yj:=λn=>Qa4 (Kerb.p9 n).1;have k2:∀ n,Zk (Wq n<18446744073709551616)=Yj:=λn=>Qa4 (Kerb.p9 n).2;have s1:∀ n,Zk (0<=Xn n)=Yj:=λn=>Qa4 (Kerb.rZ n).1;have s2:∀ n,Zk (Xn n<18446744073709551616)=Yj:=λn=>Qa4 (Kerb.rZ n).2;have hb:=Kerb.Us bx;have u1:Zk (0<=Go.IntKind.wrap AI (bx.toNat:Int))=Yj:=Qa4 hb.1;have u2:Zk (Go.IntKind.wrap AI (bx.toNat:Int)<=4611686018427387904)=Yj:=Qa4 (by omega);obtain⟨a1,a2,a3⟩:=Kerb.yT (Go.IntKind.wrap AI (bx.toNat:Int));obtain⟨c1,c2,c3⟩:=Kerb.Am (Go.IntKind.wrap AI (bx.toNat:Int));obtain⟨d1,d2,d3⟩:=Kerb.yT (Kerb.next [gV] 0 9);have e0:Zk ([gV].length<=4611686018427387904)=Yj:=rfl;obtain⟨l1,l2,l3,l4,l5⟩:=Kerb.CY [gV];have q1:Zk ((Kerb.lI gV).BY.name.length<=9223372036854775807)=Yj:=L _ d1;have q2:Zk ((Kerb.lI gV).BY.inst.length<=9223372036854775807)=Yj:=L _ d2;have q3:Zk ((Kerb.lI gV).BY.aK.length<=9223372036854775807)=Yj:=L _ d3;have hK:Go.IntKind.wrap AI (1+Xf (Go.IntKind.wrap AI (bx.toNat:Int)) 10)=Xh bx:=rfl;simp only[↓N2,u1,u2,e0,L _ l1,L _ l2,L _ l3,L _ l4,L _ l5,L _ a1,L _ a2,L _ a3,L _ c1,L _ c2,L _ c3,q1,q2,q3,k1,k2,s1,s2,Yb,hK];have w1:Zk (0<=Go.IntKind.wrap .u16 (Xu hw 16))=Yj:=Qa4 (Kerb.xF ay.1 ay.2 (by decide)).1;have w2:Zk (Go.IntKind.wrap .u16 (Xu hw 16)<=65535)=Yj:=Qa4 (Kerb.xF ay.1 ay.2 (by decide)).2;refine ru (P:=λa=>a=[.u8 kd,.u8 bx,.u8 se,.u8 gV,.u8 de,.bool li,.int .u16 hw,.bs [],.bs (Kerb.wx ⟨kd,bx,se,gV,de,li,hw⟩),.int AI (Xh bx)]) ⟨_,?_,rfl⟩ ?_
 .unfold Kerb.wx;try dsimp only
  by_cases hc:Xh bx=1
  .rw[af (by simpa using hc),Qa1 hc]
  rw[ah (by simpa using hc),Qa0 hc];clear hc;by_cases hc:Xh bx=2
  .rw[af (by simpa using hc),Qa1 hc]
  rw[ah (by simpa using hc),Qa0 hc];clear hc;by_cases hc:Xh bx=3
  .rw[af (by simpa using hc),Qa1 hc]
  rw[ah (by simpa using hc),Qa0 hc];clear hc;by_cases hc:Xh bx=4
  .rw[af (by simpa using hc),Qa1 hc]
  rw[ah (by simpa using hc),Qa0 hc];clear hc;by_cases hc:Xh bx=5
  .rw[af (by simpa using hc),af (by simpa using hc),Qa1 (.inl hc)]
  rw[ah (by simpa using hc)];by_cases hd:Xh bx=6
  .rw[af (by simpa using hd),Qa1 (.inr hd)]
  rw[ah (by simpa using hd),Qa0 (λh=>h.elim hc hd)];clear hc hd;by_cases hc:Xh bx=7
  .rw[af (by simpa using hc),Qa1 hc];show aE (Xd de 2==1) _ _=_;cases Xd de 2==1<;>rfl
  rw[ah (by simpa using hc),Qa0 hc];clear hc;by_cases hc:Xh bx=8
  .rw[af (by simpa using hc),Qa1 hc];show aE (Xd de 8==1) _ _=_;cases Xd de 8==1<;>rfl
  rw[ah (by simpa using hc),Qa0 hc];clear hc;by_cases hc:Xh bx=9
  .rw[af (by simpa using hc),Qa1 hc]
  rw[ah (by simpa using hc),Qa0 hc]
 rintro a rfl;have hl:=Kerb.J3 ⟨kd,bx,se,gV,de,li,hw⟩;have w3:Zk ((Kerb.wx ⟨kd,bx,se,gV,de,li,hw⟩).length<=1000000)=Yj:=Qa4 (by omega);unfold Kerb.tV;dsimp only;generalize Kerb.wx ⟨kd,bx,se,gV,de,li,hw⟩=B at w3 ⊢;simp only[↓N2,w1,w2,w3,k1,k2,Yb];cases Xf hw 16==15
 .simp only[↓A0,A0,aF,k1,k2,Yb,Qa7]
 .simp only[↓A0,A0,b_,k1,k2,Yb,Qa6]
theorem w34:GL Tryz.prog G 34 8 [.other,.eV] Ob:=by
 refine⟨λxs bl=> ?_,Tryz.f34,Tryz.func34,by decide +kernel,rfl,λmn xs bl r h=> ?_⟩
 .cases h:Ob 0 xs bl with
  | none=>rfl
  | some r =>
   unfold Ob at h;split at h
   .obtain⟨ay,_⟩:=aL h;simp only[Zj,Qa2] at ay;omega
   .cases h
 unfold Ob at h;split at h
 .rename_i ks bs b;obtain⟨ay,h2⟩:=aL h;cases h2;show w_ ((G.cut 34 8 [.other,.eV] (Ob mn)).env 34 9) G.rts (G.own 34) Tryz.f34 _ _ []=_;refine Qb3 (b:=(Kerb.WA mn ks bs b:Option (AV×aO))) (by kernel_rfl) ?_;simp only[Zj,Qa2] at ay;obtain⟨s,rfl,rfl,hs⟩:=Kerb.wg ay.1.1;rw[Kerb.kW];exact Kerb.TB hs ay.1.2 (by have:=ay.2;omega)
 .cases h
theorem aek:GL Tryz.prog G 100 8 [.other] EI:=by
 refine⟨λxs bl=> ?_,Tryz.f100,Tryz.func100,by decide +kernel,rfl,λmn xs bl r h=> ?_⟩
 .cases h:EI 0 xs bl with
  | none=>rfl
  | some r =>
   unfold EI at h;split at h
   .obtain⟨ay,_⟩:=aL h;simp only[Zj,Qa2] at ay;omega
   .cases h
 unfold EI at h;split at h
 .rename_i ks bs;obtain⟨ay,h2⟩:=aL h;cases h2;show w_ ((G.cut 100 8 [.other] (EI mn)).env 100 9) G.rts (G.own 100) Tryz.f100 _ _ []=_;refine Qb3 (b:=(Kerb.E' mn ks bs:Option (AV×aO))) (by kernel_rfl) ?_;simp only[Zj,Qa2] at ay;obtain⟨s,rfl,rfl,hs⟩:=Kerb.wg ay.1;have hd:=ay.2;rw[Kerb.kW] at hd ⊢;exact Kerb.J7 hs (by omega)
 .cases h
theorem aeB:Wk 119 8 IW:=by
 refine cw Tryz.func119 λ_ _ _ h=> ?_;unfold IW at h;split at h;case h_2=>cases h
 rename_i b;obtain⟨ay,rfl⟩:=dg h;refine c6 (let t1:AV:=Yu [Zx Yw,Zx Yw,Zz AI 0,Zu [],Zq [],Zq []];let t0:Option (AV×aO):=Zp (Yz [t1,Zz AI 100],[]);aE (!Zd (Xv b [3,4])==0) (Zp (Yz [t1,Zz AI (Zd (Xv b [3,4]))],[])) (Zy (CD [Zq b] []) (kT λvs=>aA vs λx r=>Wv x λcs=>aq cs λbW dj=>aq dj λeg dr=>ag AI dr λn dH=>aI dH λeG eK=>aW eK λfG fL=>aW fL λgG f_=>let t2:AV:=Yu [Zx bW,Zx eg,Zz AI n,Zu eG,Zq fG,Zq gG];ak f_ (ag AI r λn r=>ak r (Zy (CE [t2] []) (kT λvs=>aW vs λh_ r=>ag AI r λn r=>ak r (aE (!n==0) t0 (aE (!h_==b) t0 (Zp (Yz [t2,Zz AI 0],[])))))))))) ?_;delta kT;dsimp only[CD,CE,aI,aW,aq,cO,ag,bH,dc];have hb:=Qa3 ay;have kf:Zk (b.length<=4611686018427387904)=Yj:=by simp;omega
 have hr:=Kerb.fX b (Kerb.get b 2 1 Yw).next
 have g1:(Kerb.ke b).val.aK.length<=9223372036854775807:=by show(Kerb.text b (Kerb.get b 2 1 Yw).next).val.length<=_;omega
 unfold Kerb.eI;by_cases h:(Xv b [3,4]).2=0;case neg=>rw[af (by simpa using h),Qa1 h];rfl
 rw[ah (by simpa using h),Qa0 (by simpa using h)];simp only[ay,g1,Qb4,↓A0,A0];exact Kerb.c9 (no:=Kerb.zC) (enc:=Kerb.bh) (rd:=λb=>((Kerb.ke b).val,Yw)) _ Yw rfl (λx e=>(Yz [.agg [.bool (x).By,.bool (x).c7,.int AI (x).bt,.str (x).aK,.bs (x).aG,.bs (x).ft],Zz Zb e],([]:aO)))
theorem ae1:Wk 146 8 yE:=by
 refine cw Tryz.func146 λ_ _ _ h=> ?_;unfold yE at h;split at h;case h_2=>cases h
 rename_i b pos;obtain⟨ay,rfl⟩:=dg h;refine c6 (Zy (bD (λst=>aW st λb r=>ag AI r λn r=>aI r λbW r=>aI r λeg r=>aI r λeG r=>ag AI r λbf r=>ag AI r λbL r=>aI r λfG r=>aI r λgG r=>aI r λh_ r=>ag AI r λdm r=>ag AI r λbU r=>ak r (aE (Zk (bU<dm)) (aB (Zk (0<=bU)&&Zk (bU<(↑(Zw [0,1,2]):Int))&&Yj) (aE (Nat.beq (Yf bU) 0) (xn [Zq b,Zz AI n] λgY n bO=>aE (!bO==0) (Zp (Sum.inr (Ex.ret,[Zq b,Zz AI n,Zu [],Zu [],Zu [],Zz AI 0,Zz AI bO,Zu gY,Zu gG,Zu h_,Zz AI dm,Zz AI bU]))) (Zp (Wx [Zq b,Zz AI n,Zu bW,Zu eg,Zu eG,Zz AI bf,Zz AI bL,Zu gY,Zu gG,Zu h_,Zz AI dm,Zz AI (Zv AI (bU+1))]))) (aE (Nat.beq (Yf bU-1) 0) (xn [Zq b,Zz AI n] λgY n bO=>aE (!bO==0) (Zp (Sum.inr (Ex.ret,[Zq b,Zz AI n,Zu [],Zu [],Zu [],Zz AI 0,Zz AI bO,Zu fG,Zu gY,Zu h_,Zz AI dm,Zz AI bU]))) (Zp (Wx [Zq b,Zz AI n,Zu bW,Zu eg,Zu eG,Zz AI bf,Zz AI bL,Zu fG,Zu gY,Zu h_,Zz AI dm,Zz AI (Zv AI (bU+1))]))) (aE (Nat.beq (Yf bU-1-1) 0) (xn [Zq b,Zz AI n] λgY n bO=>aE (!bO==0) (Zp (Sum.inr (Ex.ret,[Zq b,Zz AI n,Zu [],Zu [],Zu [],Zz AI 0,Zz AI bO,Zu fG,Zu gG,Zu gY,Zz AI dm,Zz AI bU]))) (Zp (Wx [Zq b,Zz AI n,Zu bW,Zu eg,Zu eG,Zz AI bf,Zz AI bL,Zu fG,Zu gG,Zu gY,Zz AI dm,Zz AI (Zv AI (bU+1))]))) none)))) (Zp (Sum.inr (Ex.exit 0,[Zq b,Zz AI n,Zu bW,Zu eg,Zu eG,Zz AI bf,Zz AI bL,Zu fG,Zu gG,Zu h_,Zz AI dm,Zz AI bU]))))) [Zq b,Zz AI pos,Zu [],Zu [],Zu [],Zz AI 0,Zz AI 0,Zu [],Zu [],Zu [],Zz AI (↑(Zw [0+0,0+1,0+2]):Int),Zz AI 0]) λ(r:Ex×List AV)=>aW (Zd r) λb dj=>ag AI dj λn dr=>aI dr λb dH=>aI dH λbW eK=>aI eK λeg fL=>ag AI fL λbf f_=>ag AI f_ λbL g7=>aI g7 λeG iA=>aI iA λfG io=>aI io λgG dA=>ag AI dA λdm eC=>ag AI eC λbU eD=>ak eD (jl r.1 (Zp (Yz [Yu [Zu b,Zu bW,Zu eg],Zz AI bf,Zz AI bL],[])) λj=>aE (Nat.beq j 0) (Zy (nU [Yu [Zu eG,Zu fG,Zu gG]] []) (kL λb=>aE (!b) (Zp (Yz [Yu [Zu [],Zu [],Zu []],Zz AI 0,Zz AI 103],[])) (Zp (Yz [Yu [Zu eG,Zu fG,Zu gG],Zz AI n,Zz AI 0],[])))) none)) ?_;unfold xn;delta kT kL;dsimp only[yG,nU,aI,aW,aq,cO,ag,bH,dc];have hb:=Qa3 ay;obtain⟨T0,S5⟩:∃ T,T=Kerb.text b pos:=⟨_,rfl⟩;obtain⟨T1,hT1⟩:∃ T,T=Kerb.text b T0.next:=⟨_,rfl⟩;obtain⟨T2,hT2⟩:∃ T,T=Kerb.text b T1.next:=⟨_,rfl⟩;have hp:Kerb.gM b pos=if T0.err≠0 then⟨Kerb.dF,0,T0.err⟩ else if T1.err≠0 then⟨Kerb.dF,0,T1.err⟩ else if T2.err≠0 then⟨Kerb.dF,0,T2.err⟩
   else if Kerb.bn.valid ⟨T0.val,T1.val,T2.val⟩ then⟨⟨T0.val,T1.val,T2.val⟩,T2.next,0⟩ else⟨Kerb.dF,0,103⟩:=by
  rw[hT2,hT1,S5];rfl
 have k0:=Kerb.fX b pos;rw[<-S5] at k0;have k1:=Kerb.fX b T0.next;rw[<-hT1] at k1;have k2:=Kerb.fX b T1.next;rw[<-hT2] at k2;refine bQ (λi:Nat=>match i with
   | 0=>[Zq b,Zz Zb pos,Zu [],Zu [],Zu [],Zz Zb 0,Zz Zb 0,Zu [],Zu [],Zu [],Zz Zb 3,Zz Zb 0]
   | 1=>[Zq b,Zz Zb T0.next,Zu [],Zu [],Zu [],Zz Zb 0,Zz Zb 0,Zu T0.val,Zu [],Zu [],Zz Zb 3,Zz Zb 1]
   | 2=>[Zq b,Zz Zb T1.next,Zu [],Zu [],Zu [],Zz Zb 0,Zz Zb 0,Zu T0.val,Zu T1.val,Zu [],Zz Zb 3,Zz Zb 2]
   | _=>[Zq b,Zz Zb T2.next,Zu [],Zu [],Zu [],Zz Zb 0,Zz Zb 0,Zu T0.val,Zu T1.val,Zu T2.val,Zz Zb 3,Zz Zb 3])
  (λi=>i<=3/\(1<=i->T0.err=0)/\(2<=i->T1.err=0)/\(3<=i->T2.err=0)) (λi=>3-i)
  (λr=>(T0.err=0/\T1.err=0/\T2.err=0/\r=(Ex.exit 0,[Zq b,Zz Zb T2.next,Zu [],Zu [],Zu [],Zz Zb 0,Zz Zb 0,Zu T0.val,Zu T1.val,Zu T2.val,Zz Zb 3,Zz Zb 3])) \/
   ∃ n x y z i,Kerb.gM b pos=⟨Kerb.dF,0,(Kerb.gM b pos).err⟩/\r=(Ex.ret,[Zq b,Zz Zb n,Zu [],Zu [],Zu [],Zz Zb 0,Zz Zb (Kerb.gM b pos).err,Zu x,Zu y,Zu z,Zz Zb 3,Zz Zb i])) 0 ⟨by omega,by omega,by omega,by omega⟩ rfl ?_ ?_
 .rintro i ⟨hi,g0,g1,g2⟩;have hc:i=0\/i=1\/i=2\/i=3:=by omega
  rcases hc with rfl | rfl | rfl | rfl
  .simp only[A0];rw[af (by decide),ae (by decide),af (by decide),ae ay,<-S5];by_cases h:T0.err=0
   .rw[ah (by simp[h])];exact⟨_,rfl,1,rfl,⟨by omega,λ_=>h,by omega,by omega⟩,by dsimp only;omega⟩
   .rw[af (by simpa using h)];exact⟨_,rfl,.inr ⟨_,_,_,_,_,by rw[hp,Qa1 h],by rw[hp,Qa1 h]⟩⟩
  .simp only[A0];have e0:=g0 (by omega);rw[af (by decide),ae (by decide),ah (by decide),af (by decide),ae ay,<-hT1];by_cases h:T1.err=0
   .rw[ah (by simp[h])];exact⟨_,rfl,2,rfl,⟨by omega,λ_=>e0,λ_=>h,by omega⟩,by dsimp only;omega⟩
   .rw[af (by simpa using h)];exact⟨_,rfl,.inr ⟨_,_,_,_,_,by rw[hp,Qa0 (by simp[e0]),Qa1 h],by rw[hp,Qa0 (by simp[e0]),Qa1 h]⟩⟩
  .simp only[A0];have e0:=g0 (by omega);have e1:=g1 (by omega);rw[af (by decide),ae (by decide),ah (by decide),ah (by decide),af (by decide),ae ay,<-hT2];by_cases h:T2.err=0
   .rw[ah (by simp[h])];exact⟨_,rfl,3,rfl,⟨by omega,λ_=>e0,λ_=>e1,λ_=>h⟩,by dsimp only;omega⟩
   .rw[af (by simpa using h)];exact⟨_,rfl,.inr ⟨_,_,_,_,_,by rw[hp,Qa0 (by simp[e0]),Qa0 (by simp[e1]),Qa1 h],by rw[hp,Qa0 (by simp[e0]),Qa0 (by simp[e1]),Qa1 h]⟩⟩
  .simp only[A0];rw[ah (by decide)];exact⟨_,rfl,.inl ⟨g0 (by omega),g1 (by omega),g2 (by omega),rfl⟩⟩
 .rintro r (⟨e0,e1,e2,rfl⟩ | ⟨n,x,y,z,i,h,rfl⟩)
  .simp only[A0];rw[af (Nat.beq_refl _),ae (by simp;omega),hp,Qa0 (by simp[e0]),Qa0 (by simp[e1]),Qa0 (by simp[e2])];cases hv:Kerb.bn.valid ⟨T0.val,T1.val,T2.val⟩
   .rfl
   .rfl
  .simp only[A0];rw[h];rfl
theorem ae8:Wk 153 8 I8:=by
 refine cw Tryz.func153 λ_ _ _ h=> ?_;unfold I8 at h;split at h;case h_2=>cases h
 rename_i k x y z lf kv tk t By;obtain⟨ay,rfl⟩:=dg h;refine c6 (Zy (aB (Zk (0<=k)&&Zk (k<18446744073709551616)) (Zp (Zx (Kerb.bB k),[]))) (kL λb=>aE (!b) (Zp (Yz [Zq [],Zz AI 10],[])) (Zy (aB (dc x&&dc y&&dc z) (Zp (Zx (Kerb.bn.valid (Kerb.bn.mk x y z)),[]))) (kL λb=>aE (!b) (Zp (Yz [Zq [],Zz AI 103],[])) (aE (!Zn lf 255) (Zp (Yz [Zq [],Zz AI 104],[])) (aE (!Zn kv 255) (Zp (Yz [Zq [],Zz AI 104],[])) (aE (!Zn t 4294967295) (Zp (Yz [Zq [],Zz AI 104],[])) (aE (Zk ((Zw tk:Int)>255)) (Zp (Yz [Zq [],Zz AI 105],[])) (aE By (Zy (aB (Zk (0<=k)&&Zk (k<18446744073709551616)) (Zp (Zq (Kerb.keyBytes k),[]))) (kB λb=>Zy (aB (Zk (Zw (Yy ([]++Yk 1 1 Yw) (Yy b []))<=140737488355328)&&Zk (Zw [Zq ([]++Yk 1 1 Yw),Zq b]<=1000)) (Zp (Xq (Yy ([]++Yk 1 1 Yw) (Yy b [])),[]))) (kO λl=>Zy (aB (Zk (Zw l+Zw x+Zw y+Zw z<=70368744170000)) (Zp (Xq (Kerb.cW l (Kerb.bn.mk x y z)),[]))) (kO λl=>Zy (aB (Zk (Zw l<=70368744177664)) (Zp (Xq (l++Yk lf 1 Yw),[]))) (kO λl=>Zy (aB (Zk (Zw l<=70368744177664)) (Zp (Xq (l++Yk kv 1 Yw),[]))) (kO λl=>Zy (aB (Zk (Zw l<=70368744177664)) (Zp (Xq (l++Yk (Zw tk:Int) 1 Yw),[]))) (kO λl=>Zy (aB (Zk (Zw (Yy l (Yy tk []))<=140737488355328)&&Zk (Zw [Zq l,Zq tk]<=1000)) (Zp (Xq (Yy l (Yy tk [])),[]))) (kO λl=>Zy (aB (Zk (Zw l<=70368744177664)) (Zp (Xq (l++Yk t 4 By),[]))) (kO λl=>Zy (aB (Zk (Zw l<=70368744177664)) (Zp (Zq (Kerb.pad l),[]))) (kB λb=>Zp (Yz [Zq b,Zz AI 0],[]))))))))))) (Zy (aB (Zk (0<=k)&&Zk (k<18446744073709551616)) (Zp (Zq (Kerb.keyBytes k),[]))) (kB λb=>Zy (aB (Zk (Zw (Yy ([]++Yk 0 1 Yw) (Yy b []))<=140737488355328)&&Zk (Zw [Zq ([]++Yk 0 1 Yw),Zq b]<=1000)) (Zp (Xq (Yy ([]++Yk 0 1 Yw) (Yy b [])),[]))) (kO λl=>Zy (aB (Zk (Zw l+Zw x+Zw y+Zw z<=70368744170000)) (Zp (Xq (Kerb.cW l (Kerb.bn.mk x y z)),[]))) (kO λl=>Zy (aB (Zk (Zw l<=70368744177664)) (Zp (Xq (l++Yk lf 1 Yw),[]))) (kO λl=>Zy (aB (Zk (Zw l<=70368744177664)) (Zp (Xq (l++Yk kv 1 Yw),[]))) (kO λl=>Zy (aB (Zk (Zw l<=70368744177664)) (Zp (Xq (l++Yk (Zw tk:Int) 1 Yw),[]))) (kO λl=>Zy (aB (Zk (Zw (Yy l (Yy tk []))<=140737488355328)&&Zk (Zw [Zq l,Zq tk]<=1000)) (Zp (Xq (Yy l (Yy tk [])),[]))) (kO λl=>Zy (aB (Zk (Zw l<=70368744177664)) (Zp (Xq (l++Yk t 4 By),[]))) (kO λl=>Zy (aB (Zk (Zw l<=70368744177664)) (Zp (Zq (Kerb.pad l),[]))) (kB λb=>Zp (Yz [Zq b,Zz AI 0],[])))))))))))))))))))) ?_;delta kB kO kL;dsimp only[dc];simp only[Zj,Qa2] at ay;obtain⟨⟨⟨⟨q1,q2⟩,q3⟩,h0⟩,h1⟩:=ay;simp only[A0];unfold Kerb.bp;rw[ae (by simp[h0,h1])];cases hk:Kerb.bB k
 .rfl
 rw[Zf,aF,ae (by simp[q1,q2,q3])];cases h1:Kerb.bn.valid ⟨x,y,z⟩
 .rfl
 rw[Zf,aF];cases h4:Zn lf 255
 .rfl
 rw[Zf,aF];cases h5:Zn kv 255
 .rfl
 rw[Zf,aF];cases h6:Zn t 4294967295
 .rfl
 rw[Zf,aF];by_cases h7:255<tk.length
 .rw[af (by simp;omega),Qa0 (by simp),Qa0 (by simp),Qa0 (by simp),Qa1 h7]
 have l1:=Kerb.cV h1;simp only at l1;rw[ah (by simp;omega),Qa0 (by simp),Qa0 (by simp),Qa0 (by simp),Qa0 h7];cases By
 .rw[aF,ae (by simp;omega),ae (by first | (simp[Yx,Zh,Yv];done) | (simp[Yx,Zh,Yv];omega)),ae (by first | (simp[Yx,Zh,Yv];done) | (simp[Yx,Zh,Yv];omega)),ae (by first | (simp[Yx,Zh,Yv];done) | (simp[Yx,Zh,Yv];omega)),ae (by first | (simp[Yx,Zh,Yv];done) | (simp[Yx,Zh,Yv];omega)),ae (by first | (simp[Yx,Zh,Yv];done) | (simp[Yx,Zh,Yv];omega)),ae (by first | (simp[Yx,Zh,Yv];done) | (simp[Yx,Zh,Yv];omega)),ae (by first | (simp[Yx,Zh,Yv];done) | (simp[Yx,Zh,Yv];omega)),ae (by first | (simp[Yx,Zh,Yv];done) | (simp[Yx,Zh,Yv];omega))];simp
 .rw[b_,ae (by simp;omega),ae (by first | (simp[Yx,Zh,Yv];done) | (simp[Yx,Zh,Yv];omega)),ae (by first | (simp[Yx,Zh,Yv];done) | (simp[Yx,Zh,Yv];omega)),ae (by first | (simp[Yx,Zh,Yv];done) | (simp[Yx,Zh,Yv];omega)),ae (by first | (simp[Yx,Zh,Yv];done) | (simp[Yx,Zh,Yv];omega)),ae (by first | (simp[Yx,Zh,Yv];done) | (simp[Yx,Zh,Yv];omega)),ae (by first | (simp[Yx,Zh,Yv];done) | (simp[Yx,Zh,Yv];omega)),ae (by first | (simp[Yx,Zh,Yv];done) | (simp[Yx,Zh,Yv];omega)),ae (by first | (simp[Yx,Zh,Yv];done) | (simp[Yx,Zh,Yv];omega))];simp
theorem afj:Wk 166 8 Ja:=by
 refine cw Tryz.func166 λ_ _ _ h=> ?_;unfold Ja at h;split at h;case h_2=>cases h
 rename_i cx cy cz sx sy sz k t e a;obtain⟨ay,rfl⟩:=dg h;refine c6 (Zy (nU [Yu [Zu cx,Zu cy,Zu cz]] []) (kL λb=>aE (!b) (Zp (Yz [Zq [],Zz AI 103],[])) (Zy (nU [Yu [Zu sx,Zu sy,Zu sz]] []) (kL λb=>aE (!b) (Zp (Yz [Zq [],Zz AI 103],[])) (Zy (CJ [Zz AT k] []) (kI AI λn=>aE (!n==2) (Zp (Yz [Zq [],Zz AI 10],[])) (aE (!Kerb.period t e) (Zp (Yz [Zq [],Zz AI 104],[])) (aE (!Zn a 4294967295) (Zp (Yz [Zq [],Zz AI 104],[])) (Zy (qQ [Zq [],Yu [Zu cx,Zu cy,Zu cz]] []) (kO λl=>Zy (qQ [Zq l,Yu [Zu sx,Zu sy,Zu sz]] []) (kO λl=>Zy (vf [Zz AT k] []) (kB λb=>aB (room (Zw l+Zw b) 1) (Zy (mI [Zq (l++b),Zz AI t,Zx Yw] []) (kO λl=>Zy (mI [Zq l,Zz AI e,Zx Yw] []) (kO λl=>Zy (mI [Zq l,Zz AI a,Zx Yw] []) (kO λl=>Zy (sb [Zq l] []) (kB λb=>Zp (Yz [Zq b,Zz AI 0],[])))))))))))))))))) ?_;delta kB kO kL kI;dsimp only[nU,qQ,mI,vf,sb,CJ,aI,aW,aq,cO,ag,bH,dc];simp only[Zj,Qa2] at ay;simp only[A0,Yn,Xz,Kerb.eL.av];unfold Kerb.dL;simp only;rw[ae (by simp;omega)];cases h1:Kerb.bn.valid ⟨cx,cy,cz⟩
 .rfl
 rw[Zf,aF,ae (by simp;omega)];cases h2:Kerb.bn.valid ⟨sx,sy,sz⟩
 .rfl
 rw[Zf,aF,ae (by simp;omega),Qa0 (by simp)];by_cases h3:Kerb.iJ k=2;case neg=>rw[af (by simpa using h3),Qa1 h3]
 rw[ah (by simp[h3]),Qa0 (show ¬ (Kerb.iJ k≠2) by simpa using h3)];cases h4:Kerb.period t e
 .rfl
 rw[Zf,aF];cases h7:Zn a 4294967295
 .rfl
 rw[Zf,aF,Qa0 (by simp)];have l1:=Kerb.cV h1;have l2:=Kerb.cV h2;simp only at l1 l2;rw[ae (by simp;omega),ae (by simp[Yx,Yv,Zh,Wz];omega),ae (by simp;omega),ae (Kerb.cF (by simp[Yx,Yv,Zh,Wz];omega)),ae (by simp[Yx,Yv,Zh,Wz];omega),ae (by simp[Yx,Yv,Zh,Wz];omega),ae (by simp[Yx,Yv,Zh,Wz];omega),ae (by simp[Yx,Yv,Zh,Wz];omega)]
theorem afm:Wk 169 8 Jb:=by
 refine cw Tryz.func169 λ_ _ _ h=> ?_;unfold Jb at h;split at h;case h_2=>cases h
 rename_i k sx sy sz t e rc;obtain⟨ay,rfl⟩:=dg h;refine c6 (Zy (zQ [Zz AT k] []) (kL λb=>aE (!b) (Zp (Yz [Zq [],Zz AI 10],[])) (Zy (nU [Yu [Zu sx,Zu sy,Zu sz]] []) (kL λb=>aE (!b) (Zp (Yz [Zq [],Zz AI 103],[])) (aE (!Kerb.period t e) (Zp (Yz [Zq [],Zz AI 104],[])) (aE (Zk ((Zw rc:Int)>300)) (Zp (Yz [Zq [],Zz AI 105],[])) (Zy (vf [Zz AT k] []) (kB λb=>Zy (qQ [Zq b,Yu [Zu sx,Zu sy,Zu sz]] []) (kO λl=>Zy (mI [Zq l,Zz AI t,Zx Yw] []) (kO λl=>Zy (mI [Zq l,Zz AI e,Zx Yw] []) (kO λl=>Zy (CK [Zq l,Zq rc] []) (kB λb=>Zy (sb [Zq b] []) (kB λb=>Zp (Yz [Zq b,Zz AI 0],[])))))))))))))) ?_;delta kB kO kL;dsimp only[zQ,nU,qQ,mI,vf,sb,CK,aI,aW,aq,cO,ag,bH,dc];simp only[Zj,Qa2] at ay;simp only[A0,Yn,Xz,Kerb.eL.av];unfold Kerb.dh;simp only;rw[ae (by simp;omega)];cases h1:Kerb.bB k
 .rfl
 rw[Zf,aF,ae (by simp;omega),Qa0 (by simp)];cases h2:Kerb.bn.valid ⟨sx,sy,sz⟩
 .rfl
 rw[Zf,aF,Qa0 (by simp)];cases h4:Kerb.period t e
 .rfl
 rw[Zf,aF];rw[Qa0 (by simp)];by_cases h8:300<rc.length
 .rw[af (by simp;omega),Qa1 h8]
 rw[ah (by simp;omega),Qa0 h8];have l2:=Kerb.cV h2;simp only at l2;rw[ae (by simp;omega),ae (by simp[Yx,Yv,Zh,Wz];omega),ae (by simp[Yx,Yv,Zh,Wz];omega),ae (by simp[Yx,Yv,Zh,Wz];omega),ae (by simp[Yx,Yv,Zh,Wz];omega),ae (by simp[Yx,Yv,Zh,Wz];omega)]
theorem afw:Wk 187 8 Jd:=by
 refine cw Tryz.func187 λ_ _ _ h=> ?_;unfold Jd at h;split at h;case h_2=>cases h
 rename_i li x y z t ex kv sd;obtain⟨ay,rfl⟩:=dg h;refine c6 (Zy (aB (dc x&&dc y&&dc z) (Zp (Zx (Kerb.bn.valid (Kerb.bn.mk x y z)),[]))) (kL λb=>aE (!b) (Zp (Yz [Zq [],Zz AI 103],[])) (aE (!Zn t 4294967295) (Zp (Yz [Zq [],Zz AI 104],[])) (aE (!Zn ex 4294967295) (Zp (Yz [Zq [],Zz AI 104],[])) (aE (!Zn kv 255) (Zp (Yz [Zq [],Zz AI 104],[])) (aE (Zk ((Zw sd:Int)>1012)) (Zp (Yz [Zq [],Zz AI 105],[])) (Zy (aB (Zk (Zw (Xk 2 li)+Zw x+Zw y+Zw z<=70368744170000)) (Zp (Xq (Kerb.cW (Xk 2 li) (Kerb.bn.mk x y z)),[]))) (kO λl=>Zy (aB (Zk (Zw l<=70368744177664)) (Zp (Xq (l++Yk t 4 li),[]))) (kO λl=>Zy (aB (Zk (Zw l<=70368744177664)) (Zp (Xq (l++Yk 1 1 Yw),[]))) (kO λl=>Zy (aB (Zk (Zw l<=70368744177664)) (Zp (Xq (l++Yk ex 4 li),[]))) (kO λl=>Zy (aB (Zk (Zw l<=70368744177664)) (Zp (Xq (l++Yk kv 1 Yw),[]))) (kO λl=>Zy (aB (Zk (Zw l<=70368744177664)) (Zp (Xq (l++Yk (Zw sd:Int) 2 li),[]))) (kO λl=>Zy (aB (Zk (Zw (Yy l (Yy sd []))<=140737488355328)&&Zk (Zw [Zq l,Zq sd]<=1000)) (Zp (Xq (Yy l (Yy sd [])),[]))) (kO λl=>Zp (Yz [Zq l,Zz AI 0],[]))))))))))))))) ?_;delta kO kL;dsimp only[dc];simp only[Zj,Qa2] at ay;obtain⟨⟨q1,q2⟩,q3⟩:=ay;simp only[A0];unfold Kerb.bg;rw[ae (by simp[q1,q2,q3])];cases h1:Kerb.bn.valid ⟨x,y,z⟩
 .rfl
 rw[Zf,aF];cases h4:Zn t 4294967295
 .rfl
 rw[Zf,aF];cases h5:Zn ex 4294967295
 .rfl
 rw[Zf,aF];cases h6:Zn kv 255
 .rfl
 rw[Zf,aF];by_cases h7:1012<sd.length
 .rw[af (by simp;omega),Qa0 (by simp),Qa0 (by simp),Qa1 h7]
 have l1:=Kerb.cV h1;have l4:=Kerb.kR 2 li;simp only at l1;rw[ah (by simp;omega),Qa0 (by simp),Qa0 (by simp),Qa0 h7];rw[ae (by simp;omega),ae (by simp[Yx];omega),ae (by simp[Yx,Zh];omega),ae (by simp[Yx,Zh];omega),ae (by simp[Yx,Zh];omega),ae (by simp[Yx,Zh];omega),ae (by simp[Yx,Zh];omega)];simp
theorem afz:Wk 190 8 Je:=by
 refine cw Tryz.func190 λ_ _ _ h=> ?_;unfold Je at h;split at h;case h_2=>cases h
 rename_i li mu kv rl tk au tm lf sv ins;obtain⟨ay,rfl⟩:=dg h;refine c6 (aE mu (Zp (Yz [Zq [],Zz AI 100],[])) (Zy (CE [Yu [Zx li,Zx mu,Zz AI kv,Zu rl,Zq tk,Zq au]] []) (kT λvs=>aW vs λb r=>ag AI r λn r=>ak r (aE (!n==0) (Zp (Yz [Zq [],Zz AI n],[])) (Zy (vg [Zu sv] []) (kL λbW=>aE (!bW) (Zp (Yz [Zq [],Zz AI 103],[])) (Zy (sc [Zu ins] []) (kL λeg=>aE (!eg) (Zp (Yz [Zq [],Zz AI 103],[])) (aE (!Zn tm 4294967295) (Zp (Yz [Zq [],Zz AI 104],[])) (aE (!Zn lf 255) (Zp (Yz [Zq [],Zz AI 104],[])) (Zy (mI [Zq b,Zz AI tm,Zx li] []) (kO λl=>Zy (sa [Zq l,Zz AI lf] []) (kO λl=>Zy (qR [Zq l,Zu sv] []) (kO λl=>Zy (qR [Zq l,Zu ins] []) (kO λl=>Zp (Yz [Zq l,Zz AI 0],[])))))))))))))))) ?_;delta kT kO kL;dsimp only[CE,sa,mI,qR,vg,sc,aI,aW,aq,cO,ag,bH,dc];simp only[Zj,Qa2] at ay;obtain⟨⟨p1,p2⟩,p3⟩:=ay;simp only[A0,Yn,Xz,Kerb.eL.av,p1,p2,p3,Qb4];have hL:∀ q,Kerb.bh ⟨li,mu,kv,rl,tk,au⟩=q->Kerb.cZ ⟨⟨li,mu,kv,rl,tk,au⟩,tm,lf,sv,ins⟩=if mu then⟨[],100⟩ else if q.err≠0 then⟨[],q.err⟩ else if !(Ww sv&&Kerb.cA ins) then⟨[],103⟩ else if !(Zn tm 4294967295&&Zn lf 255) then⟨[],104⟩ else⟨Kerb.bz (Kerb.bz (q.val++Yk tm 4 li++Yk lf 1 Yw) sv) ins,0⟩:=by rintro _ rfl;rfl
 have hl:=Kerb.xM ⟨li,mu,kv,rl,tk,au⟩;obtain⟨q,hq⟩:∃ q,Kerb.bh ⟨li,mu,kv,rl,tk,au⟩=q:=⟨_,rfl⟩;rw[hL q hq,hq];rw[hq] at hl;cases mu;case true=>rfl
 rw[aF,Qa0 (by simp)];by_cases h1:q.err=0;case neg=>rw[af (by simpa using h1),Qa1 h1]
 rw[ah (by simpa using h1),Qa0 (by simpa using h1)];cases h2:Ww sv
 .rfl
 cases h3:Kerb.cA ins
 .rfl
 cases Zn tm 4294967295
 .rfl
 cases Zn lf 255
 .rfl
 have l2:=Kerb.iu h2;have l3:=Kerb.gU h3;simp only[Zf,aF,Yb,Bool.false_eq_true,if_false];rw[ae (by simp;omega),ae (by simp[Zh];omega),ae (by simp[Zh];omega),ae (by simp[Zh,Kerb.cf];omega)]
theorem afH:Wk 198 8 Ji:=by
 refine cw Tryz.func198 λ_ _ _ h=> ?_;unfold Ji at h;split at h;case h_2=>cases h
 rename_i op ux uy uz bx;obtain⟨ay,rfl⟩:=dg h;refine c6 (let t0:Option (AV×aO):=Zy (nU [Yu [Zu ux,Zu uy,Zu uz]] []) (kL λb=>aE (!b) (Zp (Yz [Zq [],Zz AI 103],[])) (aE (Zk ((Zw bx:Int)>1012)) (Zp (Yz [Zq [],Zz AI 105],[])) (Zy (qQ [Zq (Xk 10 Yw++Yk op 1 Yw),Yu [Zu ux,Zu uy,Zu uz]] []) (kO λl=>Zy (CK [Zq l,Zq bx] []) (kB λb=>Zp (Yz [Zq b,Zz AI 0],[]))))));aE (!op==1) (aE (!op==2) (aE (!op==3) (Zp (Yz [Zq [],Zz AI 40],[])) t0) t0) t0) ?_;delta kB kO kL;dsimp only[nU,qQ,CK,aI,aW,aq,cO,ag,bH,dc];simp only[Zj,Qa2] at ay;simp only[A0,Yn,Xz,Kerb.eL.av];have sL:(Xk 10 Yw).length=2:=rfl;unfold Kerb.dE;simp only;by_cases h0:1<=op/\op<=3;case neg =>
  have e:Kerb.nc op=Yw:=by simp[Kerb.nc];omega
  rw[e,af (by simp;omega),af (by simp;omega),af (by simp;omega)];rfl
 have e:Kerb.nc op=Yj:=by simp[Kerb.nc];omega
 have hs:∀ (z y:Option (AV×aO)),aE (!op==1) (aE (!op==2) (aE (!op==3) z y) y) y=y:=λz y=>by
  rcases (show op=1\/op=2\/op=3 by omega) with rfl | rfl | rfl<;>rfl
 rw[e,Qa0 (by simp),hs];rw[ae (by simp;omega)];cases h2:Kerb.bn.valid ⟨ux,uy,uz⟩
 .rfl
 rw[Zf,aF,Qa0 (by simp)];by_cases h8:1012<bx.length
 .rw[af (by simp;omega),Qa1 h8]
 rw[ah (by simp;omega),Qa0 h8];have l2:=Kerb.cV h2;simp only at l2;rw[ae (by simp[Zh,sL];omega),ae (by simp[Yx,Zh,sL];omega)]
theorem afV:Wk 213 8 Rh:=by
 refine cw Tryz.func213 λ_ _ _ h=> ?_;unfold Rh at h;split at h;case h_2=>cases h
 rename_i li x y z ad k lf xj sv ins;obtain⟨ay,rfl⟩:=dg h;refine c6 (Zy (nU [Yu [Zu x,Zu y,Zu z]] []) (kL λb=>aE (!b) (Zp (Zz AI 103,[])) (Zy (vg [Zu sv] []) (kL λb=>aE (!b) (Zp (Zz AI 103,[])) (Zy (sc [Zu ins] []) (kL λb=>aE (!b) (Zp (Zz AI 103,[])) (Zy (CJ [Zz AT k] []) (kI AI λn=>aE (!n==2) (Zp (Zz AI 10,[])) (aE (!Zn ad 4294967295) (Zp (Zz AI 104,[])) (aE (!Zn lf 255) (Zp (Zz AI 104,[])) (aE (!Zn xj 4294967295) (Zp (Zz AI 104,[])) (Zp (Zz AI 0,[]))))))))))))) ?_;delta kL kI;dsimp only[nU,CJ,vg,sc,aI,aW,aq,cO,ag,bH,dc];simp only[Zj,Qa2] at ay;obtain⟨⟨⟨⟨⟨⟨h1,h2⟩,h3⟩,h4⟩,h5⟩,h6⟩,h7⟩:=ay;simp only[h1,h2,h3,h4,h5,h6,h7,Qb4,Yb,↓A0,A0];unfold Kerb.dU.err;dsimp only;cases Kerb.bn.valid ⟨x,y,z⟩
 .rfl
 cases Ww sv
 .rfl
 cases Kerb.cA ins
 .rfl
 simp only[Zf,Yb,aF];by_cases hc:Kerb.iJ k=2;case neg=>rw[af (by simpa using hc),Qa0 (by simp),Qa1 hc]
 rw[ah (by simp[hc]),Qa0 (by simp),Qa0 (by simp[hc])];cases Zn ad 4294967295
 .rfl
 cases Zn lf 255
 .rfl
 cases Zn xj 4294967295
 .rfl
 rfl
theorem af6:Wk 224 8 Jp:=by
 refine cw Tryz.func224 λ_ _ _ h=> ?_;unfold Jp at h;split at h;case h_2=>cases h
 rename_i lb t k st en kv x y z tk;obtain⟨ay,rfl⟩:=dg h;refine c6 (let t0:Option (AV×aO):=aE (!Zn t 4294967295) (Zp (Zz AI 104,[])) (aE (!Kerb.ez lb) (aE (!k==0) (Zp (Zz AI 108,[])) (aE (!st==0) (Zp (Zz AI 108,[])) (aE (!en==0) (Zp (Zz AI 108,[])) (aE (!kv==0) (Zp (Zz AI 108,[])) (aE (!(x==[]&&(y==[]&&z==[]))) (Zp (Zz AI 108,[])) (aE (Zk ((Zw tk:Int)>0)) (Zp (Zz AI 108,[])) (Zp (Zz AI 0,[])))))))) (Zy (zQ [Zz AT k] []) (kL λb=>aE (!b) (Zp (Zz AI 10,[])) (aE (!Zn st 4294967295) (Zp (Zz AI 104,[])) (aE (!Zn en 4294967295) (Zp (Zz AI 104,[])) (aE (!Zn kv 255) (Zp (Zz AI 104,[])) (Zy (nU [Yu [Zu x,Zu y,Zu z]] []) (kL λb=>aE (!b) (Zp (Zz AI 103,[])) (aE (Zk ((Zw tk:Int)>255)) (Zp (Zz AI 105,[])) (Zp (Zz AI 0,[])))))))))));aE (!Kerb.ez lb) (aE (!lb==[(67:UInt8),(80:UInt8),(87:UInt8),(100:UInt8)]) (Zp (Zz AI 80,[])) t0) t0) ?_;delta kL;dsimp only[zQ,nU,aI,aW,aq,cO,ag,bH,dc];have MP:([103,84,71,83]:List UInt8)=Kerb.vM:=rfl;have DV:([103,84,75,84]:List UInt8)=Kerb.ly:=rfl;have Hj:([67,80,87,108]:List UInt8)=Kerb.fO:=rfl;have zW:([67,80,87,100]:List UInt8)=Kerb.lH:=rfl;have MQ:([116,103,115,84]:List UInt8)=Kerb.zu:=rfl;have zg:([116,107,116,71]:List UInt8)=Kerb.p_:=rfl;have HM:=ay;simp only[Zj,Qa2] at ay;have hk:(Zk (0<=k)&&Zk (k<18446744073709551616))=Yj:=by simp;omega
 have hv:(Zk (x.length<=9223372036854775807)&&Zk (y.length<=9223372036854775807)&&Zk (z.length<=9223372036854775807))=Yj:=by simp;omega
 simp only[A0,zW,hk,hv];unfold Kerb.aZ;simp only;cases ht:Kerb.ez lb
 .rw[Bool.not_false,b_];cases hc:(lb==Kerb.lH)
  .rfl
  rw[Zf,aF,Qa0 (by simp)];cases h1:Zn t 4294967295
  .rfl
  rw[Zf,aF,Qa0 (by simp),b_,Qa0 (by simp)];by_cases h2:k=0;case neg=>rw[af (by simpa using h2),Qa1 (.inl h2)]
  rw[ah (by simp[h2])];by_cases h3:st=0;case neg=>rw[af (by simpa using h3),Qa1 (.inr (.inl h3))]
  rw[ah (by simp[h3])];by_cases h4:en=0;case neg=>rw[af (by simpa using h4),Qa1 (.inr (.inr (.inl h4)))]
  rw[ah (by simp[h4])];by_cases h5:kv=0;case neg=>rw[af (by simpa using h5),Qa1 (.inr (.inr (.inr (.inl h5))))]
  rw[ah (by simp[h5])];show aE (!(Kerb.bn.Ax ⟨x,y,z⟩)) _ _=_;cases h6:Kerb.bn.Ax ⟨x,y,z⟩
  .rw[Qa1 (.inr (.inr (.inr (.inr (.inl rfl)))))];rfl
  rw[Zf,aF];by_cases h7:tk=[];case neg=>rw[af (by have:=List.length_pos_iff.2 h7;simp;omega),Qa1 (.inr (.inr (.inr (.inr (.inr h7)))))]
  rw[ah (by simp[h7]),Qa0 (by simp[h2,h3,h4,h5,h7])]
 .rw[Zf,aF,Qa0 (by simp)];cases h1:Zn t 4294967295
  .rfl
  rw[Zf,aF,Qa0 (by simp),aF,Qa1 rfl];cases h2:Kerb.bB k
  .rfl
  rw[Zf,aF,Qa0 (by simp)];cases h3:Zn st 4294967295
  .rfl
  rw[Zf,aF];cases h4:Zn en 4294967295
  .rfl
  rw[Zf,aF];cases h5:Zn kv 255
  .rfl
  rw[Zf,aF,Qa0 (by simp)];cases h6:Kerb.bn.valid ⟨x,y,z⟩
  .rfl
  rw[Zf,aF,Qa0 (by simp)];by_cases h7:255<tk.length
  .rw[af (by simp;omega),Qa1 h7]
  .rw[ah (by simp;omega),Qa0 h7]
theorem agd:Wk 236 8 Jq:=by
 refine cw Tryz.func236 λ_ _ _ h=> ?_;unfold Jq at h;split at h;case h_2=>cases h
 rename_i els;obtain⟨ay,rfl⟩:=dg h;refine tK [0] (Zy (CO [Zz AT (Zv AT (Zw els:Int))] []) (kI AI λn=>Zy (EL [Xm 0 27 1,Zz AI 0,Zz AI (Zw els:Int),Zz AI n] [(0,els)]) λr=>aC (Zd r) λx dj=>aD dj (AV.gx (Zg r) λvs=>ak vs (Zp (Yz [],[x]))))) ?_;delta kI;dsimp only[EL,CO,aI,aW,aq,cO,ag,bH,dc];simp only[Zj,Qa2] at ay;obtain⟨ig,hlen⟩:=ay;obtain⟨d,rfl,hd⟩:=Kerb.nq ig;simp only[Yh] at hlen ⊢;rw[Kerb.Ow (by omega) (by omega),ae (by rw[Kerb.F6];simp;omega)];simp only[↓gy,↓fm,↓bX,↓cH,↓hF,↓lF,↓dx,↓dR,↓dC];rw[Kerb.BR];have hb:=Kerb.V7 hlen;rw[ae (by simp only[Xp,Xx,Yh,Zj,Qa2,Qa9,Qa8];omega)];simp only[↓gy,↓fm,↓bX,↓cH,↓hF,↓lF,↓dx,↓dR,↓dC];rw[Kerb.Od]
theorem agp:Wk 249 8 Jt:=by
 refine cw Tryz.func249 λ_ _ _ h=> ?_;unfold Jt at h;split at h;case h_2=>cases h
 rename_i op ux uy uz kv rl tk sv ins bx;obtain⟨ay,rfl⟩:=dg h;refine c6 (aE (!Kerb.nc op) (Zp (Zz AI 40,[])) (aE (!op==2) (Zy (nU [Yu [Zu ux,Zu uy,Zu uz]] []) (kL λb=>aE (!b) (Zp (Zz AI 103,[])) (aE (Zk ((Zw bx:Int)>1012)) (Zp (Zz AI 105,[])) (aE (!kv==0) (Zp (Zz AI 108,[])) (aE (!rl==[]) (Zp (Zz AI 108,[])) (aE (Zk ((Zw tk:Int)>0)) (Zp (Zz AI 108,[])) (aE (!sv==[]) (Zp (Zz AI 108,[])) (aE (!ins==[]) (Zp (Zz AI 108,[])) (Zp (Zz AI 0,[])))))))))) (Zy (CM [Zu rl] []) (kL λb=>aE (!b) (Zp (Zz AI 103,[])) (Zy (vg [Zu sv] []) (kL λb=>aE (!b) (Zp (Zz AI 103,[])) (Zy (sc [Zu ins] []) (kL λb=>aE (!b) (Zp (Zz AI 103,[])) (aE (!Zn kv 255) (Zp (Zz AI 104,[])) (aE (Zk ((Zw tk:Int)>255)) (Zp (Zz AI 105,[])) (aE (Zk ((Zw bx:Int)>1012)) (Zp (Zz AI 105,[])) (aE (!(ux==[]&&(uy==[]&&uz==[]))) (Zp (Zz AI 108,[])) (Zp (Zz AI 0,[])))))))))))))) ?_;delta kL;dsimp only[nU,CM,vg,sc,aI,aW,aq,cO,ag,bH,dc];simp only[Zj,Qa2] at ay;simp only[A0];rw[ae (by simp;omega),ae (by simp;omega),ae (by simp;omega),ae (by simp;omega)];unfold Kerb.aP;simp only;cases h0:Kerb.nc op
 .rfl
 rw[Zf,aF,Qa0 (by simp)];cases h1:(op==2)
 .rw[Bool.not_false,b_,Qa0 (by simp)];cases h2:Kerb.bn.valid ⟨ux,uy,uz⟩
  .rfl
  rw[Zf,aF,Qa0 (by simp)];by_cases h3:1012<bx.length
  .rw[af (by simp;omega),Qa1 h3]
  rw[ah (by simp;omega),Qa0 h3];by_cases h4:kv=0;case neg=>rw[af (by simpa using h4),Qa1 (.inl h4)]
  rw[ah (by simp[h4])];by_cases h5:rl=[];case neg=>rw[af (by simpa using h5),Qa1 (.inr (.inl h5))]
  rw[ah (by simp[h5])];by_cases h6:tk=[];case neg=>rw[af (by have:=List.length_pos_iff.2 h6;simp;omega),Qa1 (.inr (.inr (.inl h6)))]
  rw[ah (by simp[h6])];by_cases h7:sv=[];case neg=>rw[af (by simpa using h7),Qa1 (.inr (.inr (.inr (.inl h7))))]
  rw[ah (by simp[h7])];by_cases h8:ins=[];case neg=>rw[af (by simpa using h8),Qa1 (.inr (.inr (.inr (.inr h8))))]
  rw[ah (by simp[h8]),Qa0 (by simp[h4,h5,h6,h7,h8])]
 .rw[Zf,aF,Qa1 rfl];cases h2:Kerb.dO rl
  .rfl
  rw[Zf,aF];cases h3:Ww sv
  .rfl
  rw[Zf,aF];cases h4:Kerb.cA ins
  .rfl
  rw[Zf,aF,Qa0 (by simp)];cases h5:Zn kv 255
  .rfl
  rw[Zf,aF,Qa0 (by simp)];by_cases h6:255<tk.length
  .rw[af (by simp;omega),Qa1 (.inl h6)]
  rw[ah (by simp;omega)];by_cases h7:1012<bx.length
  .rw[af (by simp;omega),Qa1 (.inr h7)]
  rw[ah (by simp;omega),Qa0 (by omega)];show aE (!(Kerb.bn.Ax ⟨ux,uy,uz⟩)) _ _=_;cases Kerb.bn.Ax ⟨ux,uy,uz⟩<;>rfl
theorem w9:Wk 9 9 XP:=by
 refine cw Tryz.func9 λ_ _ _ h=> ?_;unfold XP at h;split at h;case h_2=>cases h
 rename_i kd bx se gV de li hw;obtain⟨ay,rfl⟩:=dg h;refine c6 (let t0:UInt8:=UInt8.ofNat (Yf (Xf (Yd kd:Int) (↑(Yd (10:UInt8)):Int)));let t1:List AV:=[Yu [Zq [],Zz AI 0,Zz AI 0,Zz AI (Zv AI (Yd de:Int))],Zx li,Zz AT (Wq se)];Zy (I5 [Yu [Zm kd,Zm bx,Zm se,Zm gV,Zm de,Zx li,Zz .u16 hw]] []) (kB λb=>W8 [Zz AI (Zv AI (Yd kd:Int))] λbW eg eG=>Zy (aE (t0==(0:UInt8)) (Zy (Lg [Yu [Zx li,Zu bW,Zu eg,Zu eG,Zz AI 0,Zz AI 0,Zz AI 0,Zq b]] []) (kT λvs=>aW vs λb r=>ag AI r λn r=>ak r (Zp [Zm kd,Zm bx,Zm se,Zm gV,Zm de,Zx li,Zz .u16 hw,Zq [],Zq b]))) (aE (t0==(1:UInt8)) (Zp [Zm kd,Zm bx,Zm se,Zm gV,Zm de,Zx li,Zz .u16 hw,Zq [],Zq (Kerb.ll.val (Kerb.bh (Kerb.cN.mk li Yw 0 [(82:UInt8)] (Kerb.o7 gV de) b)))]) (aE (t0==(2:UInt8)) (Zp [Zm kd,Zm bx,Zm se,Zm gV,Zm de,Zx li,Zz .u16 hw,Zq [],Zq (Kerb.ll.val (Kerb.cZ (Kerb.fy.mk (Kerb.cN.mk li Yw 0 [(82:UInt8)] (Kerb.o7 gV de) (Kerb.o7 gV de)) 0 0 [(115:UInt8)] [])))]) (aE (t0==(3:UInt8)) (Zp [Zm kd,Zm bx,Zm se,Zm gV,Zm de,Zx li,Zz .u16 hw,Zq [],Zq (Kerb.ll.val (Kerb.cj b li))]) (aE (t0==(4:UInt8)) (Zp [Zm kd,Zm bx,Zm se,Zm gV,Zm de,Zx li,Zz .u16 hw,Zq [],Zq (Kerb.ll.val (Kerb.aP (Kerb.dk.mk 2 (Kerb.bn.mk [] [] []) 0 [(82:UInt8)] (Kerb.o7 gV de) [(115:UInt8)] [] b)))]) (aE (t0==(5:UInt8)) (Zp [Zm kd,Zm bx,Zm se,Zm gV,Zm de,Zx li,Zz .u16 hw,Zq [],Zq (Kerb.ll.val (Kerb.bw (Kerb.iI.mk 1 0 b)))]) (aE (t0==(6:UInt8)) (Zy (Lh [Yu [Zz AI (Zv AI (1+Xf (Zv AI (Xu (Zv AI (Yd kd:Int)) 10)) 3)),Zu bW,Zu eg,Zu eG,Zq b]] []) (kT λvs=>aW vs λb r=>ag AI r λn r=>ak r (Zp [Zm kd,Zm bx,Zm se,Zm gV,Zm de,Zx li,Zz .u16 hw,Zq [],Zq b]))) (aE (t0==(7:UInt8)) (Zy (RN t1 []) (kT λvs=>aW vs λb r=>ag AI r λn r=>ak r (Zp [Zm kd,Zm bx,Zm se,Zm gV,Zm de,Zx li,Zz .u16 hw,Zq [],Zq b]))) (aE (t0==(8:UInt8)) (Zy (RO t1 []) (kT λvs=>aW vs λb r=>ag AI r λn r=>ak r (Zp [Zm kd,Zm bx,Zm se,Zm gV,Zm de,Zx li,Zz .u16 hw,Zq [],Zq b]))) (Zp [Zm kd,Zm bx,Zm se,Zm gV,Zm de,Zx li,Zz .u16 hw,Zq [],Zq b])))))))))) λl=>cO l λb r=>cO r λb r=>cO r λb r=>cO r λb r=>cO r λb r=>aq r λb r=>ag .u16 r λn r=>aW r λb r=>aW r λb r=>ak r (aE (Xf n 32==13) (Zy (Li [Zq b,Zz .u16 (Zv .u16 (Xu n 32))] []) (kB λb=>Zp (Zq b,[]))) (Zp (Zq b,[]))))) ?_;unfold W8;delta kT kA kB;dsimp only[I5,Lf,Lg,Lh,RN,RO,Li,aI,aW,aq,cO,ag,bH,dc];have hh:=ay;simp only[Zj,Qa2] at ay;have L:∀ b:List UInt8,b.length<=39->Zk (b.length<=9223372036854775807)=Yj:=λb h=>Qa4 (by omega);have k1:∀ n,Zk (0<=Wq n)=Yj:=λn=>Qa4 (Kerb.p9 n).1;have k2:∀ n,Zk (Wq n<18446744073709551616)=Yj:=λn=>Qa4 (Kerb.p9 n).2;have s1:∀ n,Zk (0<=Xn n)=Yj:=λn=>Qa4 (Kerb.rZ n).1;have s2:∀ n,Zk (Xn n<18446744073709551616)=Yj:=λn=>Qa4 (Kerb.rZ n).2;have hb:=Kerb.Us kd;have u1:Zk (0<=Go.IntKind.wrap AI (kd.toNat:Int))=Yj:=Qa4 hb.1;have u2:Zk (Go.IntKind.wrap AI (kd.toNat:Int)<=4611686018427387904)=Yj:=Qa4 (by omega);obtain⟨a1,a2,a3⟩:=Kerb.yT (Go.IntKind.wrap AI (kd.toNat:Int))
 have hR:UInt8.ofNat (Yf (Xf (kd.toNat:Int) ((10:UInt8).toNat:Int)))=Xd kd 10:=rfl;simp only[↓N2,hh,u1,u2,L _ a1,L _ a2,L _ a3,k1,k2,Yb,hR];have w1:Zk (0<=Go.IntKind.wrap .u16 (Xu hw 32))=Yj:=Qa4 (Kerb.xF ay.1 ay.2 (by decide)).1;have w2:Zk (Go.IntKind.wrap .u16 (Xu hw 32)<=65535)=Yj:=Qa4 (Kerb.xF ay.1 ay.2 (by decide)).2;refine ru (P:=λa=>a=[.u8 kd,.u8 bx,.u8 se,.u8 gV,.u8 de,.bool li,.int .u16 hw,.bs [],.bs (Kerb.qG ⟨kd,bx,se,gV,de,li,hw⟩)]) ⟨_,?_,rfl⟩ ?_
 .unfold Kerb.qG;try dsimp only
  by_cases hc:Xd kd 10=0
  .rw[af (by simpa using hc),Qa1 hc]
  rw[ah (by simpa using hc),Qa0 hc];clear hc;by_cases hc:Xd kd 10=1
  .rw[af (by simpa using hc),Qa1 hc]
  rw[ah (by simpa using hc),Qa0 hc];clear hc;by_cases hc:Xd kd 10=2
  .rw[af (by simpa using hc),Qa1 hc]
  rw[ah (by simpa using hc),Qa0 hc];clear hc;by_cases hc:Xd kd 10=3
  .rw[af (by simpa using hc),Qa1 hc]
  rw[ah (by simpa using hc),Qa0 hc];clear hc;by_cases hc:Xd kd 10=4
  .rw[af (by simpa using hc),Qa1 hc]
  rw[ah (by simpa using hc),Qa0 hc];clear hc;by_cases hc:Xd kd 10=5
  .rw[af (by simpa using hc),Qa1 hc]
  rw[ah (by simpa using hc),Qa0 hc];clear hc;by_cases hc:Xd kd 10=6
  .rw[af (by simpa using hc),Qa1 hc]
  rw[ah (by simpa using hc),Qa0 hc];clear hc;by_cases hc:Xd kd 10=7
  .rw[af (by simpa using hc),Qa1 hc]
  rw[ah (by simpa using hc),Qa0 hc];clear hc;by_cases hc:Xd kd 10=8
  .rw[af (by simpa using hc),Qa1 hc]
  rw[ah (by simpa using hc),Qa0 hc]
 rintro a rfl;have hl:=Kerb.z9 ⟨kd,bx,se,gV,de,li,hw⟩;have w3:Zk ((Kerb.qG ⟨kd,bx,se,gV,de,li,hw⟩).length<=1000000)=Yj:=Qa4 (by omega);unfold Kerb.nR;dsimp only;generalize Kerb.qG ⟨kd,bx,se,gV,de,li,hw⟩=B at w3 ⊢;simp only[↓N2,w1,w2,w3,k1,k2,Yb];cases Xf hw 32==13
 .simp only[↓A0,A0,aF,Qa7]
 .simp only[↓A0,A0,b_,Qa6]
theorem w28:Wk 28 9 RE:=by
 refine cw Tryz.func28 λ_ _ _ h=> ?_;unfold RE at h;split at h;case h_2=>cases h
 rename_i ks bs b;obtain⟨ay,rfl⟩:=dg h;refine c6 (Zy (aB (Zk (Zw b<=70368744170000)) (Zp (Yq 1 (Wy (Kerb.partsOf b)),[]))) λr=>aD (Zd r) (Xg 1 (Zg r) λb=>Zy (aB (Kerb.lZ ks bs&&Yj&&Kerb.oW b&&Yj&&Zk (Zw b<=1000)&&List.all (Kerb.eY b) λ(b:Kerb.Bytes)=>Zk (Zw b<=140737488355328)) (Zp (Yz [Yu [Yq 1 (Kerb.bK (Kerb.Kn.keys (Kerb.Kn.add (Wu ks bs) (Kerb.AD.mk (Kerb.eJ []) (Kerb.eY b))))),Yq 1 (Wy (Kerb.Kn.boxes (Kerb.Kn.add (Wu ks bs) (Kerb.AD.mk (Kerb.eJ []) (Kerb.eY b)))))],Zx !Kerb.Kn.has (Wu ks bs) (Kerb.AD.mk (Kerb.eJ []) (Kerb.eY b))],[]))) (kT λvs=>aA vs λx r=>Wv x λcs=>bH 1 cs λb dj=>bH 1 dj λbW dr=>ak dr (aq r λeg r=>ak r (Zy (aB (Kerb.lZ b bW) (Zp (Yu [Yq 1 (Kerb.bK (Kerb.Kn.keys (Kerb.close (Wu b bW)))),Yq 1 (Wy (Kerb.Kn.boxes (Kerb.close (Wu b bW))))],[]))) (kA λcs=>bH 1 cs λb r=>bH 1 r λeG r=>ak r (Zp (Yu [Yq 1 b,Yq 1 eG],[])))))))) ?_;delta kT kA;dsimp only[aq,bH];simp only[Zj,Qa2] at ay;obtain⟨VC,hm⟩:=ay;obtain⟨s,rfl,rfl,hs⟩:=Kerb.wg VC;rw[Kerb.kW] at hm;have hb':Zk (b.length<=70368744170000)=Yj:=by simp;omega
 have hp:=Kerb.kZ b;have hf:=Kerb.wb.2 (hs.parts hm);have h9:(Kerb.partsOf b).all (λb=>Zk (b.length<=140737488355328))=Yj:=List.all_eq_true.2 λx hx=>Qa4 (by have:=hp.1 x hx;omega);simp only[A0,Yn,Xz,Kerb.eL.av,h9,hb',VC,Kerb.kW,Kerb.hJ,Kerb.qS,Kerb.cG,show Kerb.eJ []=[] from rfl,hf];rw[ae (by simp;omega)];rfl
theorem w30:Wk 30 9 RI:=by
 refine cw Tryz.func30 λ_ _ _ h=> ?_;unfold RI at h;split at h;case h_2=>cases h
 rename_i ks bs k;obtain⟨ay,rfl⟩:=dg h;refine c6 (Zy (aB (Zk (0<=k)&&Zk (k<18446744073709551616)) (Zp (Yq 1 (Kerb.bK (Kerb.ec [k])),[]))) λr=>aD (Zd r) (Xg 1 (Zg r) λb=>Zy (aB (Kerb.lZ ks bs&&Kerb.dl b&&Yj&&Zk (Zw b<=1000)&&Yj&&Yj) (Zp (Yz [Yu [Yq 1 (Kerb.bK (Kerb.Kn.keys (Kerb.Kn.add (Wu ks bs) (Kerb.AD.mk (Kerb.eJ b) (Kerb.eY []))))),Yq 1 (Wy (Kerb.Kn.boxes (Kerb.Kn.add (Wu ks bs) (Kerb.AD.mk (Kerb.eJ b) (Kerb.eY [])))))],Zx !Kerb.Kn.has (Wu ks bs) (Kerb.AD.mk (Kerb.eJ b) (Kerb.eY []))],[]))) (kT λvs=>aA vs λx r=>Wv x λcs=>bH 1 cs λb dj=>bH 1 dj λbW dr=>ak dr (aq r λeg r=>ak r (Zy (aB (Kerb.lZ b bW) (Zp (Yu [Yq 1 (Kerb.bK (Kerb.Kn.keys (Kerb.close (Wu b bW)))),Yq 1 (Wy (Kerb.Kn.boxes (Kerb.close (Wu b bW))))],[]))) (kA λcs=>bH 1 cs λb r=>bH 1 r λeG r=>ak r (Zp (Yu [Yq 1 b,Yq 1 eG],[])))))))) ?_;delta kT kA;dsimp only[aq,bH];simp only[Zj,Qa2] at ay;obtain⟨⟨⟨VC,k0⟩,k1⟩,hm⟩:=ay;have qo:(Zk (0<=k)&&Zk (k<18446744073709551616))=Yj:=by simp[k0,k1]
 obtain⟨s,rfl,rfl,hs⟩:=Kerb.wg VC;rw[Kerb.kW] at hm;have hp:=Kerb.oQ k;have hf:=Kerb.wb.2 (hs.KA (k:=k) hm);simp only[A0,Yn,Xz,Kerb.eL.av,qo,VC,Kerb.kW,Kerb.gX,Kerb.lG,Kerb.cU,show Kerb.eY []=[] from rfl,hf];rw[ae (by simp;omega)];rfl
theorem w32:Wk 32 9 RK:=by
 refine cw Tryz.func32 λ_ _ _ h=> ?_;unfold RK at h;split at h;case h_2=>cases h
 rename_i ks bs b;obtain⟨ay,rfl⟩:=dg h;refine c6 (Kerb.UM ks bs b) ?_;simp only[Zj,Qa2] at ay;obtain⟨s,rfl,rfl,hs⟩:=Kerb.wg ay.1;rw[Kerb.kW];exact Kerb.SV hs ay.2
end Go.Proofs.YteafbgcimcpfiaaGreat
