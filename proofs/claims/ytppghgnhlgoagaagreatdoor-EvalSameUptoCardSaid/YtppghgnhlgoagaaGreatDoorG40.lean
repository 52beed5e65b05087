/- Parts. -/
import Derived.Test.YtppghgnhlgoagaaGreatDoorG37
set_option linter.all false
set_option maxRecDepth 100000
set_option maxHeartbeats 4000000
namespace Go.Proofs.YtppghgnhlgoagaaGreatDoor
open Go Go.RowKit
open Go.Lib renaming hid->zh
theorem wkArm_call (x:Nx) (bn off n c j pe:Nat) (tp:Addr) (text:Int) (h:Value) (w1 wr:World) (B:Nat) (tb:Tb) (ask0 t7 asked:Value) (na:Nat) (L:List Value) (Qn:Act->World->Prop) (Q0:Exit->Act->World->Prop) {s1 s3 s4 s5 s6 s8 s9 az bQ dA aC ag aA aJ aK aB aN aO aP ae iq iw jA dY dZ dh di dm dn dw eF eG eH eP eQ eU eX eY eu fA fB fC fD fE fF fG fH fJ ah fK fM fO fP fQ fU fV fZ gB gG gI gJ gK gQ gU gV gW gX gY gZ gm gp gq gu gy gz iC iD iE iG iH iJ iK iL iM iP iQ iR iT iU iW iY iZ ig ik bC bD bF bG bH bI bJ bK bM bP bT bU bV bZ bg bi bu cO cZ cu dB dC ai dD dE dF dG dH dI dJ dK dL dM dN dP dQ dR dS dU dV dW dX aS aQ aU aV aW aX aY aZ aF aG aH aI:Value} (pre args:List (Arg×List En))
  (hW:WX w1 wr B tb ask0 t7 (pre++args) asked na L) (hB1:B<=w1.heap.size) (hpl:(pre++args).length<=j) (hj:j<n) (hn:n<=1024) (hcell:∀ i u,x.cells[i]? =some u->wr.cell? ⟨bn,off+(j*15+i),none⟩=some u) (hE:AtB wr pe (zAc tp text h)) (hents:tb.ents.length<=1048576) (hna:na<=100000) (k5:x.kind=5) (htp:tp=⟨tb.tp,0,none⟩) (har:x.args=(args.length:Int)) (har1:0<args.length) (h16:args.length<=16) (hname: ¬ x.name.toList=[65,83,75]) (hstrip:tabX x.name args text=tabP x.name (args.map zAH) text) (hv:SzV (tabX x.name args text)) (hlib:∀ w',zBn tb.pt tb.tp ask0.ownBlock w1 w'->zBs w'/\MaxL w')
  (hNx:NxW x ((pre++args).map zAH) bn off n c j pe w1 B tb text ask0 na L Qn s1 s3 s4 s5 s6 s8 aC ag aA aJ aK aB aN aO aP aF aG aH aI) :
  Code.wp Tryz.prog ((Tryz.f11.body.bind zAY).getD .skip) (Exit.then Qn (npQ Q0)) ⟨#[.pointer (some ⟨pe,0,none⟩),s1,.iface 31 (.pointer (some ⟨tb.pt,0,none⟩)),s3,s4,s5,s6,t7,s8,s9,az,bQ,dA,aC,ag,aA,aJ,aK,aB,aN,aO,aP,.slice (some ⟨bn,off,none⟩) n c,.int .i64 n,.int .i64 j,ae,iq,iw,jA,dY,dZ,dh,di,dm,dn,dw,eF,eG,eH,eP,eQ,eU,eX,eY,eu,fA,fB,fC,fD,fE,fF,fG,fH,fJ,ah,fK,fM,fO,fP,fQ,fU,fV,fZ,gB,gG,gI,gJ,gK,gQ,gU,gV,gW,gX,gY,gZ,gm,gp,gq,gu,gy,gz,iC,iD,iE,iG,iH,iJ,iK,iL,iM,iP,iQ,iR,iT,iU,iW,iY,iZ,ig,ik,bC,bD,bF,bG,bH,bI,bJ,bK,bM,bP,bT,bU,bV,bZ,bg,bi,bu,cO,cZ,cu,dB,dC,ai,dD,dE,dF,dG,dH,dI,dJ,dK,dL,dM,dN,dP,dQ,dR,dS,dU,dV,dW,dX,aS,aQ,aU,aV,aW,aX,aY,aZ,aF,aG,aH,aI],[]⟩ wr:=by
 obtain⟨i0,hi,hz0,hz1,hz2⟩:=info_parts info_GX
 have c0:=hcell 0 _ rfl
 have c1:=hcell 1 _ rfl
 have c2:=hcell 2 _ rfl
 have c3:=hcell 3 _ rfl
 have c4:=hcell 4 _ rfl
 have c5:=hcell 5 _ rfl
 have c6:=hcell 6 _ rfl
 have c7:=hcell 7 _ rfl
 have c8:=hcell 8 _ rfl
 have c9:=hcell 9 _ rfl
 have c10:=hcell 10 _ rfl
 have c11:=hcell 11 _ rfl
 have c12:=hcell 12 _ rfl
 have c13:=hcell 13 _ rfl
 have c14:=hcell 14 _ rfl
 simp only[<- Nat.add_assoc,Nat.add_zero] at c0 c1 c2 c3 c4 c5 c6 c7 c8 c9 c10 c11 c12 c13 c14
 have HW:=zh hW
 have HNX:=zh @hNx
 have HE:=zh hE
 have hsz:=hW.kept.2.2.2.1
 clear hcell hNx hW hE
 conv=>arg 2;whnf
 have hn1:(x.kind==1)=false:=by simp[k5]
 have hn2:(x.kind==2)=false:=by simp[k5]
 have hn3:(x.kind==3)=false:=by simp[k5]
 have hn4:(x.kind==4)=false:=by simp[k5]
 have q1: ¬ x.name.toList=[65,83,75]:=hname
 have q2:(x.name.toList==[65,83,75])=false:=by simp[hname]
 subst htp
 obtain⟨m,hm⟩:∃ m,m=pre.length:=⟨_,rfl⟩
 obtain⟨ar,har0⟩:∃ ar,ar=args.length:=⟨_,rfl⟩
 obtain⟨R,hR⟩:∃ R,R=tabX x.name args text:=⟨_,rfl⟩
 have hl2:(pre++args).length=m+ar:=by rw[hm,har0];simp
 rw[<- har0] at har h16
 rw[har] at c14
 have hst:zBv tb text ((pre++args).map zAH) x=((pre++[(vArg R,[])]).map zAH,[]):=by
  unfold zBv
  have hnm:x.name≠⟨#[65,83,75]⟩:=fun e=>hname (by rw[e,ByteArray.toList_eq])
  rw[if_neg (by omega),if_neg (by omega),if_neg (by omega),if_neg (by omega),if_neg hnm,har,Int.toNat_natCast,List.length_map,hl2,Nat.add_sub_cancel,List.map_append,List.take_append_of_le_length (by simp;omega),List.take_of_length_le (by simp;omega),List.drop_append_of_le_length (by simp;omega),List.drop_eq_nil_of_le (by simp;omega),List.nil_append,<-hstrip,<-hR,zBY]
  rfl
 have HST:=zh hst
 have HLIB:=zh hlib
 have hv:SzV R:=by rw[hR];exact hv
 have HV:=zh hv
 have HRR:=zh hR
 have HM:=zh hm
 have HAR:=zh har0
 have hO:=HW.out.own
 rw[hl2] at hO hpl
 have HPT:=zh (show wr.heap.size≠tb.tp/\wr.heap.size+1≠tb.tp from by have h1:=HW.out.far.2.1;have h2:=HW.out.kept.2.2.2.1;omega)
 obtain⟨g,cc,rfl,hcap,hcm,hbg,hgl,hcl,hfz⟩:=zAf hO (by omega)
 have hmc:m<cc:=by omega
 have hmcc:m<=cc:=by omega
 have e0:=HE.out 0 _ rfl
 have e1:=HE.out 1 _ rfl
 have le:=zA2 e0
 have hw0:IntKind.i64.wrap (m:Int)=m:=by rw[IntKind.wrap_i64];omega
 have hw4:(0:Int)<=(m:Int):=by omega
 have hw1:IntKind.i64.wrap ((m:Int)+1-1)=(m:Int):=by rw[IntKind.wrap_i64];omega
 have hw5:(m:Int)<(m:Int)+1:=by omega
 have hw1':IntKind.i64.wrap ((m:Int)+(ar:Int)-(ar:Int))=(m:Int):=by rw[IntKind.wrap_i64];omega
 have hw9:(m:Int)<=(m:Int)+(ar:Int):=by omega
 have HCALL:=zh (show ∀ w':World,Below wr.heap.size wr w'->Calls Tryz.prog 26 #[.pointer (some ⟨tb.tp,0,none⟩),.string x.name,.slice (some ⟨g,m*11,none⟩) ar (cc-m),.int .i64 text] w' fun e w''=>e=.returned (vG R)/\Ready w'' tb.tp/\Turn tb.tp w' w'' from fun w' hb=>by
  have h:=WX.call (pre:=pre) (args:=args) (g:=g) HW.out HLIB.out hb (by have:=HAR.out;omega) (some ⟨g,m*11,none⟩) (cc-m) (by have:=HAR.out;omega) (fun _=>⟨_,_,rfl,by rw[HM.out]⟩) x.name text
  rw[<- HRR.out,<-HAR.out] at h
  exact h)
 clear hst hlib hv hm har0 hO hl2 hcl hfz hname k5 har hR hstrip HLIB
 go_upto_region 12 with fail
 go_cut [54] from 25 to 149 (fun ah wx=>WX w1 wx B tb ask0 (.slice (some ⟨g,0,none⟩) (m+ar) cc) (pre++args) asked na L/\wx.cell? ⟨wr.heap.size,14,none⟩=some (.int .i64 ar)/\AtB wx (wr.heap.size+1) [.int .i64 R.tag,.int .i64 R.num,.string R.str,.bool R.is,.int .i64 R.code])
 case first =>
  go_region_law ((go_simp;go_at_call 26;refine(HCALL.out _ bel).mono ?_;rintro e w2 ⟨rfl,hR2,hT2⟩;have hz:w2.heap[wr.heap.size+1]? =some (.cells #[.int .i64 0,.int .i64 0,.string ⟨#[]⟩,.bool false,.int .i64 0] 44 (0,0)):=(hT2.2.2.2.2 _ (by simp) HPT.out.2).trans (by have h:=heap_alloc_new (wr.alloc (nObj x ar)) zObj;rw[alz] at h;exact h);have q14:=hT2.cell (k:=wr.heap.size) (i:=14) (v:=.int .i64 ar) HPT.out.1 (show (((wr.alloc (nObj x ar)).alloc zObj)).cell? ⟨wr.heap.size,14,none⟩=some (.int .i64 ar) from zAB ((AtB.new rfl) 14 _ rfl) _);have v0:w2.cell? ⟨wr.heap.size+1,0,none⟩=some (.int .i64 0):=cell_of_row w2 _ 0 _ _ (0,0) hz;have v1:w2.cell? ⟨wr.heap.size+1,1,none⟩=some (.int .i64 0):=cell_of_row w2 _ 1 _ _ (0,0) hz;have v2:w2.cell? ⟨wr.heap.size+1,2,none⟩=some (.string ⟨#[]⟩):=cell_of_row w2 _ 2 _ _ (0,0) hz;have v3:w2.cell? ⟨wr.heap.size+1,3,none⟩=some (.bool false):=cell_of_row w2 _ 3 _ _ (0,0) hz;have v4:w2.cell? ⟨wr.heap.size+1,4,none⟩=some (.int .i64 0):=cell_of_row w2 _ 4 _ _ (0,0) hz;have f0:=frozen_of_row w2 (wr.heap.size+1) 0 _ _ hz;have f1:=frozen_of_row w2 (wr.heap.size+1) 1 _ _ hz;have f2:=frozen_of_row w2 (wr.heap.size+1) 2 _ _ hz;have f3:=frozen_of_row w2 (wr.heap.size+1) 3 _ _ hz;have f4:=frozen_of_row w2 (wr.heap.size+1) 4 _ _ hz;have KT:=zh ((Turn.of_below (b:=tb.tp) (w:=wr) bel).trans hT2);have KR:=zh hR2;have HZ:=zh hz;clear hR2 hT2 hz))
  all_goals
   go_wp2_with fail
   go_meet
   exact⟨WX.turnT HW.out (turn_setV KT.out (Nat.le_succ _)) (tab_setV (.inl KR.out) HZ.out),zAF (zAF (zAF (zAF (zAF q14 (by omega)) (by omega)) (by omega)) (by omega)) (by omega),setV_at (AtB.some5 (show AtB w2 (wr.heap.size+1) [.int .i64 0,.int .i64 0,.string ⟨#[]⟩,.bool false,.int .i64 0] from fun j u hu=>(cell_of_row w2 _ j _ _ (0,0) HZ.out).trans (by simpa using hu)))⟩
 case rest =>
  obtain⟨hW2,h14,hRv⟩:=hcut
  have HW2:=zh hW2
  have r0:=hRv 0 _ rfl
  have r1:=hRv 1 _ rfl
  have r2:=hRv 2 _ rfl
  have r3:=hRv 3 _ rfl
  have r4:=hRv 4 _ rfl
  have l14:=zA2 h14
  have lr:=zA2 r0
  have hsx:=hW2.kept.2.2.2.1
  clear hRv hW2 c0 c1 c2 c3 c4 c5 c6 c7 c8 c9 c10 c11 c12 c13 c14
  go_wp2
  go_region_law ((refine step_append_lies _ (by rfl) _ _ _ (by rfl) w1.heap.size 91 i0 _ 11 112 Tryz.underlying84 hi hz0 hz1 hz2 (by rfl) (by decide) (.slice (some ⟨g,0,none⟩) m cc) m (zBi Arg.cells (pre.map Prod.fst)) (by rfl) (zA7 (by have h:=(WX.pop (pre:=pre) (args:=args) (by rw[<- HM.out,<-HAR.out];exact HW2.out)).own;rw[<- HM.out] at h;exact h) bel) _ 1 1 ((vArg R).cells) (by rfl) (by rfl) (by exact fun i u hu=>zAJ (by simp) i u hu) (Arg.cells_one _) (by decide) (by simp only[maxLen];omega) (by omega) (by simp;omega) _ rfl ?_;intro g' cap w3 hown hgrow hat hlt))
  all_goals
   go_wp2_with fail
   have HR3:=zh (WX.pushV (WX.pop (pre:=pre) (args:=args) (by rw[<- HM.out,<-HAR.out];exact HW2.out)) hB1 bel hgrow (by rw[<- HM.out];exact hown) hat HV.out)
   clear hown hgrow hat
   go_wp2
   exact HNX.out (pre++[(vArg R,[])]) asked na L _ (by rw[HST.out]) (by rw[HST.out];simp[zBi]) (by omega) (by have h:=HR3.out;rw[<- HM.out] at h;exact h)
end Go.Proofs.YtppghgnhlgoagaaGreatDoor
