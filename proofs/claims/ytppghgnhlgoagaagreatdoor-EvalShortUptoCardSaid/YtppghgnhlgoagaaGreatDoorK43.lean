/-
  Parts of a proof.
-/
import Derived.Test.YtppghgnhlgoagaaGreatDoorK38
set_option linter.all false
set_option maxRecDepth 100000
set_option maxHeartbeats 4000000
namespace Go.Proofs.YtppghgnhlgoagaaGreatDoor
open Go Go.RowKit
open Go.Lib renaming hid->zh
theorem method_Rect (a:Addr) (w:World):(method 479 31 (.pointer (some a)) "Rect").run Tryz.prog w=.ok (366,.pointer (some a)) w:=by kernel_rfl
theorem wkArm_rect (x:Nx) (pl:List (Arg×List En)) (bn off n c j pe:Nat) (tp:Addr) (text:Int) (h:Value) (w1 wr:World) (B:Nat) (tb:Tb) (ask0 t7 asked:Value) (na:Nat) (L:List Value) (Qn:Act->World->Prop) (Q0:Exit->Act->World->Prop) (s1 s3 s4 s5 s6 s8 s9 iZ jG jS aC ah aA aJ aK aB aN aO aP ae nN nO nP jr jv jw jy kC kD kE kF kG kH kJ kK kL kM kN kP kQ kR kS kT kU kV kW kX kY ax kZ ku kw kz lC lD lF lG lH lI lJ lK lL lM lN lQ lS lU lV lW lX lY lZ lh lm mD mF mG mJ mM mO mP mQ mV mW mX mY mZ mf mg mi mr nC nD nG ig ik iq iw jA jB jC jD jE jF jH jI jJ jK jL jM jO jP jQ jR jT jU iY jV jW jX jY jZ ja jb jc jd je jf jg jh ji jk jl jm jo jq aS aQ aU aV aW aX aY aZ aF aG aH aI:Value)
  (hW:WX w1 wr B tb ask0 t7 pl asked na L) (hB1:B<=w1.heap.size) (hpl:pl.length<=j) (hj:j<n) (hn:n<=1024) (hcell:∀ i u,x.cells[i]? =some u->wr.cell? ⟨bn,off+(j*15+i),none⟩=some u) (hE:AtB wr pe (zAq tp text h)) (hents:tb.ents.length<=1048576) (hna:na<=100000) (k3:x.kind=3) (hse:∀ e∈tb.ents,SzV e.v)
  (hNx:∀ (v7 v9 dJ dU dw nS ni ny o5 fJ fK bV bZ fM bg bi bK ai fO bu fP cO fQ fU bM fV ag cZ cu fZ dA ay dB aj gB dC gG dD gI bP dE gJ gK dF au dG dH dI gQ gU az gV bC gW gX bQ bT gY gZ gm gp gq gu gy gz iC iD iE iG iH iJ iK iL iM iP iQ iR iT iU iW dK dL dM dN dP bF dQ dR dS bU dV dW dX dY dZ dh di bG dm dn eF eG eH eP bH eQ eU bD eX eY ed eu fA fB fC fD fE fF bI bJ fG fH nU nV nX nY nR nZ nT ng:Value) (pl':List (Arg×List En)) (asked':Value) (na':Nat) (L':List Value) (w':World),pl'.map zA9=(wstep tb text (pl.map zA9) x).1->L'=L++flatC Ak.cells (wstep tb text (pl.map zA9) x).2->na'<=na+1->WX w1 w' B tb ask0 v7 pl' asked' na' L'->Qn ⟨#[.pointer (some ⟨pe,0,none⟩),s1,.iface 31 (.pointer (some ⟨tb.pt,0,none⟩)),s3,s4,s5,s6,v7,s8,v9,dJ,dU,dw,aC,ah,aA,aJ,aK,aB,aN,aO,aP,.slice (some ⟨bn,off,none⟩) n c,.int .i64 n,.int .i64 (j+1:Nat),nS,ni,ny,o5,fJ,fK,bV,bZ,fM,bg,bi,bK,ai,fO,bu,fP,cO,fQ,fU,bM,fV,ag,cZ,cu,fZ,dA,ay,dB,aj,gB,dC,gG,dD,gI,bP,dE,gJ,gK,dF,au,dG,dH,dI,gQ,gU,az,gV,bC,gW,gX,bQ,bT,gY,gZ,gm,gp,gq,gu,gy,gz,iC,iD,iE,iG,iH,iJ,iK,iL,iM,iP,iQ,iR,iT,iU,iW,dK,dL,dM,dN,dP,bF,dQ,dR,dS,bU,dV,dW,dX,dY,dZ,dh,di,bG,dm,dn,eF,eG,eH,eP,bH,eQ,eU,bD,eX,eY,ed,eu,fA,fB,fC,fD,fE,fF,bI,bJ,fG,fH,nU,nV,nX,nY,nR,nZ,nT,ng,aF,aG,aH,aI],[]⟩ w') :
  Code.wp Tryz.prog ((Tryz.f11.body.bind zAX).getD .skip) (Exit.then Qn (npQ Q0)) ⟨#[.pointer (some ⟨pe,0,none⟩),s1,.iface 31 (.pointer (some ⟨tb.pt,0,none⟩)),s3,s4,s5,s6,t7,s8,s9,iZ,jG,jS,aC,ah,aA,aJ,aK,aB,aN,aO,aP,.slice (some ⟨bn,off,none⟩) n c,.int .i64 n,.int .i64 j,ae,nN,nO,nP,jr,jv,jw,jy,kC,kD,kE,kF,kG,kH,kJ,kK,kL,kM,kN,kP,kQ,kR,kS,kT,kU,kV,kW,kX,kY,ax,kZ,ku,kw,kz,lC,lD,lF,lG,lH,lI,lJ,lK,lL,lM,lN,lQ,lS,lU,lV,lW,lX,lY,lZ,lh,lm,mD,mF,mG,mJ,mM,mO,mP,mQ,mV,mW,mX,mY,mZ,mf,mg,mi,mr,nC,nD,nG,ig,ik,iq,iw,jA,jB,jC,jD,jE,jF,jH,jI,jJ,jK,jL,jM,jO,jP,jQ,jR,jT,jU,iY,jV,jW,jX,jY,jZ,ja,jb,jc,jd,je,jf,jg,jh,ji,jk,jl,jm,jo,jq,aS,aQ,aU,aV,aW,aX,aY,aZ,aF,aG,aH,aI],[]⟩ wr:=by
 obtain⟨i0,hi,hz0,hz1,hz2⟩:=info_parts info_GX
 have c0:=hcell 0 _ rfl
 have c1:=hcell 1 _ rfl
 have c2:=hcell 2 _ rfl
 have c3:=hcell 3 _ rfl
 have c4:=hcell 4 _ rfl
 have c5:=hcell 5 _ rfl
 have c6:=hcell 6 _ rfl
 have c7:=hcell 7 _ rfl
 have c8:=hcell 8 _ rfl
 have c9:=hcell 9 _ rfl
 have c10:=hcell 10 _ rfl
 have c11:=hcell 11 _ rfl
 have c12:=hcell 12 _ rfl
 have c13:=hcell 13 _ rfl
 have c14:=hcell 14 _ rfl
 simp only[<- Nat.add_assoc,Nat.add_zero] at c0 c1 c2 c3 c4 c5 c6 c7 c8 c9 c10 c11 c12 c13 c14
 have HW:=zh hW
 have HNX:=zh hNx
 have HE:=zh hE
 have hsz:=hW.kept.2.2.2.1
 clear hcell hNx hW hE
 conv=>arg 2;whnf
 have hst:wstep tb text (pl.map zA9) x=(pl.map zA9++[.rect x.top x.left x.bottom x.right (rectN tb.ents x.top x.left x.bottom x.right)],[akRect x.top x.left x.bottom x.right]):=by unfold wstep;rw[if_neg (by omega),if_neg (by omega),if_pos k3]
 have HST:=zh hst
 have hn1:(x.kind==1)=false:=by simp[k3]
 have hn2:(x.kind==2)=false:=by simp[k3]
 have kk3:(x.kind==3)=true:=by simp[k3]
 have HSZ:=zh (rectN_sz (t:=x.top) (le:=x.left) (b:=x.bottom) (r:=x.right) hse)
 have HLE:=zh (Nat.le_trans (rectN_le tb.ents x.top x.left x.bottom x.right) hents)
 have HAW:=zh (show asked.ownBlock≠some wr.heap.size from fun e=>by have:=(HW.out.src.own.lt _ e).2;omega)
 have HPT:=zh (show wr.heap.size≠tb.pt from by have h1:=HW.out.src.lt;have h2:=HW.out.src.le;omega)
 obtain⟨RR,hRR⟩:∃ RR,RR=(rectN tb.ents x.top x.left x.bottom x.right):=⟨_,rfl⟩
 have hmth:=method_Rect ⟨tb.pt,0,none⟩
 clear hst k3 hse
 go_upto_region 19 with fail
 go_region_law (first
  | (go_simp;go_at_call 366;refine(table_RectG x.top x.left x.bottom x.right _ B tb asked na L (HW.out.src.below bel) hents (by omega)).mono ?_;rintro e w2 ⟨v2,ask2,rfl,hown2,hs2,hk2,hw2,hne2⟩;have HW2:=zh (WX.turn HW.out hB1 bel hs2 hk2 hw2 (WX.lfOne HW.out _));have hsw2:=HW2.out.kept.2.2.2.1;have hsx2:=hk2.2.2.2.1;obtain⟨A2,cc2,rfl,hei⟩:=entsIn_own (base:=w1.heap.size) (t7:=t7) x.top x.left x.bottom x.right hown2 (by simp;omega) hne2 (fun k hk=>by have:=(HW.out.own.lt k hk).2;simp;omega);have HEI:=zh hei;have p8:=hk2.cell (b:=wr.heap.size) (i:=8) HPT.out HAW.out ((AtB.new rfl) 8 _ rfl);have p9:=hk2.cell (b:=wr.heap.size) (i:=9) HPT.out HAW.out ((AtB.new rfl) 9 _ rfl);have p10:=hk2.cell (b:=wr.heap.size) (i:=10) HPT.out HAW.out ((AtB.new rfl) 10 _ rfl);have p11:=hk2.cell (b:=wr.heap.size) (i:=11) HPT.out HAW.out ((AtB.new rfl) 11 _ rfl);have lp8:=zA6 p8;clear hs2 hk2 hw2 hown2 hne2 hei)
  | (refine step_append_lies _ (by rfl) _ _ _ (by rfl) w1.heap.size 91 i0 _ 11 112 Tryz.underlying84 hi hz0 hz1 hz2 (by rfl) (by decide) t7 pl.length (flatC Arg.cells (pl.map Prod.fst)) (by rfl) (zAD HW2.out.own bel) _ 1 1 ((rArg x.top x.left x.bottom x.right A2 (rectN tb.ents x.top x.left x.bottom x.right).length cc2).cells) (by rfl) (by rfl) (by exact fun i u hu=>zAO (by simp) i u hu) (Arg.cells_one _) (by decide) (by simp only[maxLen];omega) (by omega) (by simp;omega) _ rfl ?_;intro g cap w3 hown hgrow hat hlt))
 all_goals
  go_wp2_with fail
  have HR3:=zh (WX.pushP (p:=(rArg x.top x.left x.bottom x.right A2 (rectN tb.ents x.top x.left x.bottom x.right).length cc2,(rectN tb.ents x.top x.left x.bottom x.right))) HW2.out hB1 bel hgrow hown hat (HEI.out.below bel) (wf_rArg _ _ _ _ _ _ _ _) (sz_rArg HLE.out HSZ.out))
  clear hown hgrow hat
  go_wp2
  exact HNX.out _ _ _ _ _ _ _ _ _ _ _ _ _ _ _ _ _ _ _ _ _ _ _ _ _ _ _ _ _ _ _ _ _ _ _ _ _ _ _ _ _ _ _ _ _ _ _ _ _ _ _ _ _ _ _ _ _ _ _ _ _ _ _ _ _ _ _ _ _ _ _ _ _ _ _ _ _ _ _ _ _ _ _ _ _ _ _ _ _ _ _ _ _ _ _ _ _ _ _ _ _ _ _ _ _ _ _ _ _ _ _ _ _ _ _ _ _ _ _ _ _ _ _ _ _ _ _ _ _ _ (pl++[(rArg x.top x.left x.bottom x.right A2 (rectN tb.ents x.top x.left x.bottom x.right).length cc2,(rectN tb.ents x.top x.left x.bottom x.right))]) ask2 (na+1) (L++(akRect x.top x.left x.bottom x.right).cells) _ (by rw[HST.out,zBg];rfl) (by rw[HST.out];simp[flatC]) (by omega) HR3.out
end Go.Proofs.YtppghgnhlgoagaaGreatDoor
