/- Parts. -/
import Derived.Test.YtppghgnhlgoagaaGreatDoorG38
import Derived.Test.YtppghgnhlgoagaaGreatDoorG39
import Derived.Test.YtppghgnhlgoagaaGreatDoorG40
import Derived.Test.YtppghgnhlgoagaaGreatDoorG41
import Derived.Test.YtppghgnhlgoagaaGreatDoorG42
import Derived.Test.YtppghgnhlgoagaaGreatDoorG43
import Derived.Test.YtppghgnhlgoagaaGreatDoorG47
set_option linter.all false
set_option maxRecDepth 100000
set_option maxHeartbeats 4000000
namespace Go.Proofs.YtppghgnhlgoagaaGreatDoor
open Go Go.RowKit
open Go.Lib renaming hid->zh
theorem wkArm_op2 (x:Nx) (bn off n c j pe:Nat) (tp:Addr) (text:Int) (h:Value) (w1 wr:World) (B:Nat) (tb:Tb) (ask0 t7 asked:Value) (na:Nat) (L:List Value) (Qn:Act->World->Prop) (Q0:Exit->Act->World->Prop) {s1 s3 s4 s5 s6 s8 s9 az bQ dA aC ag aA aJ aK aB aN aO aP ae iq iw jA dY dZ dh di dm dn dw eF eG eH eP eQ eU eX eY eu fA fB fC fD fE fF fG fH fJ ah fK fM fO fP fQ fU fV fZ gB gG gI gJ gK gQ gU gV gW gX gY gZ gm gp gq gu gy gz iC iD iE iG iH iJ iK iL iM iP iQ iR iT iU iW iY iZ ig ik bC bD bF bG bH bI bJ bK bM bP bT bU bV bZ bg bi bu cO cZ cu dB dC ai dD dE dF dG dH dI dJ dK dL dM dN dP dQ dR dS dU dV dW dX aS aQ aU aV aW aX aY aZ aF aG aH aI:Value} (pre:List (Arg×List En)) (a:V)
  (hW:WX w1 wr B tb ask0 t7 (pre++[(vArg a,[])]) asked na L) (hB1:B<=w1.heap.size) (hpl:(pre++[(vArg a,[])]).length<=j) (hj:j<n) (hn:n<=1024) (hcell:∀ i u,x.cells[i]? =some u->wr.cell? ⟨bn,off+(j*15+i),none⟩=some u) (hE:AtB wr pe (zAc tp text h)) (hents:tb.ents.length<=1048576) (hna:na<=100000) (k4:x.kind=4) (hu:x.op=2) (ha:Is64 a.num) (hv:SzV (oneG x.op a))
  (hNx:NxW x ((pre++[(vArg a,[])]).map zAH) bn off n c j pe w1 B tb text ask0 na L Qn s1 s3 s4 s5 s6 s8 aC ag aA aJ aK aB aN aO aP aF aG aH aI) :
  Code.wp Tryz.prog ((Tryz.f11.body.bind zAY).getD .skip) (Exit.then Qn (npQ Q0)) ⟨#[.pointer (some ⟨pe,0,none⟩),s1,.iface 31 (.pointer (some ⟨tb.pt,0,none⟩)),s3,s4,s5,s6,t7,s8,s9,az,bQ,dA,aC,ag,aA,aJ,aK,aB,aN,aO,aP,.slice (some ⟨bn,off,none⟩) n c,.int .i64 n,.int .i64 j,ae,iq,iw,jA,dY,dZ,dh,di,dm,dn,dw,eF,eG,eH,eP,eQ,eU,eX,eY,eu,fA,fB,fC,fD,fE,fF,fG,fH,fJ,ah,fK,fM,fO,fP,fQ,fU,fV,fZ,gB,gG,gI,gJ,gK,gQ,gU,gV,gW,gX,gY,gZ,gm,gp,gq,gu,gy,gz,iC,iD,iE,iG,iH,iJ,iK,iL,iM,iP,iQ,iR,iT,iU,iW,iY,iZ,ig,ik,bC,bD,bF,bG,bH,bI,bJ,bK,bM,bP,bT,bU,bV,bZ,bg,bi,bu,cO,cZ,cu,dB,dC,ai,dD,dE,dF,dG,dH,dI,dJ,dK,dL,dM,dN,dP,dQ,dR,dS,dU,dV,dW,dX,aS,aQ,aU,aV,aW,aX,aY,aZ,aF,aG,aH,aI],[]⟩ wr:=by
 obtain⟨i0,hi,hz0,hz1,hz2⟩:=info_parts info_GX
 have c0:=hcell 0 _ rfl
 have c1:=hcell 1 _ rfl
 have c2:=hcell 2 _ rfl
 have c3:=hcell 3 _ rfl
 have c4:=hcell 4 _ rfl
 have c5:=hcell 5 _ rfl
 have c6:=hcell 6 _ rfl
 have c7:=hcell 7 _ rfl
 have c8:=hcell 8 _ rfl
 have c9:=hcell 9 _ rfl
 have c10:=hcell 10 _ rfl
 have c11:=hcell 11 _ rfl
 have c12:=hcell 12 _ rfl
 have c13:=hcell 13 _ rfl
 have c14:=hcell 14 _ rfl
 simp only[<- Nat.add_assoc,Nat.add_zero] at c0 c1 c2 c3 c4 c5 c6 c7 c8 c9 c10 c11 c12 c13 c14
 have HW:=zh hW
 have HNX:=zh @hNx
 have HE:=zh hE
 have hsz:=hW.kept.2.2.2.1
 clear hcell hNx hW hE
 conv=>arg 2;whnf
 have hn1:(x.kind==1)=false:=by simp[k4]
 have hn2:(x.kind==2)=false:=by simp[k4]
 have hn3:(x.kind==3)=false:=by simp[k4]
 have kk4:(x.kind==4)=true:=by simp[k4]
 have u1:(x.op==1)=false:=by simp[hu]
 have u2:(x.op==2)=true:=by simp[hu]
 have hst:zBv tb text ((pre++[(vArg a,[])]).map zAH) x=((pre++[(vArg (oneG x.op a),[])]).map zAH,[]):=by
  unfold zBv
  rw[if_neg (by omega),if_neg (by omega),if_neg (by omega),if_pos k4,zBY,zBY]
  exact congrArg (fun l=>(l,[])) (opG_one (.inr hu) _ a)
 have HST:=zh hst
 have HV:=zh hv
 have HA:=zh ha
 obtain⟨m,hm⟩:∃ m,m=pre.length:=⟨_,rfl⟩
 have hl2:(pre++[(vArg a,([]:List En))]).length=m+1:=by rw[hm];simp
 have hO:=HW.out.own
 rw[hl2] at hO hpl
 obtain⟨g,cc,rfl,hcap,hcm,hbg,hgl,hcl,hfz⟩:=zAf hO (by omega)
 have ha:((pre++[(vArg a,([]:List En))]).map Prod.fst)[m]? =some (vArg a):=by rw[hm];simp
 have a1:=hcl _ _ (zA9 Arg.cells 11 Arg.cells_length _ m (vArg a) ha 1 _ rfl)
 have fa1:=hfz (m*11+1)
 have a2:=hcl _ _ (zA9 Arg.cells 11 Arg.cells_length _ m (vArg a) ha 2 _ rfl)
 have fa2:=hfz (m*11+2)
 have a3:=hcl _ _ (zA9 Arg.cells 11 Arg.cells_length _ m (vArg a) ha 3 _ rfl)
 have fa3:=hfz (m*11+3)
 have a4:=hcl _ _ (zA9 Arg.cells 11 Arg.cells_length _ m (vArg a) ha 4 _ rfl)
 have fa4:=hfz (m*11+4)
 have a5:=hcl _ _ (zA9 Arg.cells 11 Arg.cells_length _ m (vArg a) ha 5 _ rfl)
 have fa5:=hfz (m*11+5)
 have hw0:IntKind.i64.wrap (m:Int)=m:=by rw[IntKind.wrap_i64];omega
 have hw4:(0:Int)<=(m:Int):=by omega
 have hw1:IntKind.i64.wrap ((m:Int)+1-1)=(m:Int):=by rw[IntKind.wrap_i64];omega
 have hw5:(m:Int)<(m:Int)+1:=by omega
 have HM:=zh hm
 clear hst hu k4 hv hcl hfz ha hO hm hl2
 go_upto_region 23 with fail
 go_cut [122] from 25 to 149 (fun ai wx=>Below wr.heap.size (setV wr g (m*11+1) (oneG x.op a)) wx)
 case first =>
  go_region_law ((go_simp;go_at_call 23;refine mB (eval_one x.op a HA.out _) ?_;intro l5 m5))
  all_goals(go_wp2_with fail;go_meet;unfold setV;exact bel)
 case rest =>
  obtain rfl:=HM.out
  have HR3:=zh (WX.op1 HW.out hB1 HV.out hcut)
  clear hcut
  go_wp2
  exact HNX.out (pre++[(vArg (oneG x.op a),[])]) asked na L _ (by rw[HST.out]) (by rw[HST.out];simp[zBi]) (by omega) HR3.out
def Sz (K:Nat) (v:V):Prop:=v.str.size<=K
section
variable {K:Nat}
theorem zAd {p:Prop} [Decidable p] {a b:V} (h1:Sz K a) (h2:Sz K b):Sz K (if p then a else b):=by split<;>assumption
theorem zAS (c:Int):Sz K (errG c):=Nat.zero_le _
theorem sz_num (x:Int):Sz K (numG x):=by
 unfold numG
 exact zAd (Nat.zero_le _) (Nat.zero_le _)
theorem sz_truth (b:Bool):Sz K (zC1 b):=Nat.zero_le _
theorem sz_zero:Sz K ⟨0,0,⟨#[]⟩,false,0⟩:=Nat.zero_le _
theorem sz_numC (p:Int×Int):Sz K (numC p):=by
 unfold numC
 exact zAd (zAS _) (sz_num _)
theorem sz_wholeX (n:Nat) (low:Bool):Sz K (wholeX n low):=by
 unfold wholeX
 exact zAd (zAS _) (sz_num _)
theorem sz_wholeT (n:Int):Sz K (wholeT n):=sz_num _
theorem sz_told {t:Int} (ht:t<=K) (s:ByteArray):Sz K (toldX t s):=by
 unfold toldX
 by_cases h:t<s.size
 ·rw[if_pos h];exact zAS _
 ·rw[if_neg h];show s.size<=K;omega
theorem sz_places (f:Int->Int->Int×Int) (x y:Int):Sz K (zC8 f x y):=by
 unfold zC8
 exact zAd (sz_numC _) (zAS _)
theorem sz_lcmGo:∀ (l:List Nat) (m:Nat),Sz K (lcmGo l m)
 | [],m=>sz_wholeX m false
 | n::ns,m=>by
   unfold lcmGo
   exact zAd (zAS _) (sz_lcmGo ns _)
theorem sz_numDo (s:ByteArray) (l:List Int):Sz K (numDo s l):=by
 unfold numDo oddX clampX factX lcmX gcdX quotX signV
 with_reducible repeat' (first|refine zAd ?_ ?_|exact zAS _|exact sz_truth _|exact sz_num _|exact sz_wholeX _ _|exact sz_numC _|exact sz_places _ _ _|exact sz_lcmGo _ _)
theorem sz_find {vs:List V} {f:V->Bool} {v:V} (h:∀ v∈vs,Sz K v) (hv:vs.find? f=some v):Sz K v:=h v (List.mem_of_find?_eq_some hv)
theorem sz_nums (s:ByteArray) (vs:List V) (h:∀ v∈vs,Sz K v):Sz K (numsVals s vs):=by
 unfold numsVals
 split
 ·rename_i v hv
  exact sz_find h hv
 ·split
  ·exact zAS _
  ·exact sz_numDo _ _
theorem sz_concat {t:Nat} (ht:t<=K):∀ (l:List ByteArray) (a:List UInt8),Sz K (zBA t l a)
 | [],a=>sz_told (by omega) _
 | s::r,a=>by
   unfold zBA
   exact zAd (zAS _) (sz_concat ht r _)
theorem sz_subst {t:Nat} (ht:t<=K) (x y:List UInt8):∀ (f:Nat) (l a:List UInt8),Sz K (substGo t x y f l a)
 | 0,_,_=>zAS _
 | f+1,l,a=>by
   unfold substGo
   exact zAd (zAS _) (zAd (sz_told (by omega) _) (zAd (zAS _) (sz_subst ht x y f _ _)))
theorem sz_textDo (s:ByteArray) {t:Nat} (ht:t<=K) (ss:List ByteArray) (ns:List Int):Sz K (textDo s t ss ns):=by
 have h1:=fun a:ByteArray=>sz_told (K:=K) (t:=t) (by omega) a
 have h2:=sz_concat (K:=K) ht
 have h3:=sz_subst (K:=K) ht
 unfold textDo numTX charX ordX substX placeX reptX midX rightX leftX exactX
 with_reducible repeat' (first|refine zAd ?_ ?_|exact zAS _|exact sz_truth _|exact sz_num _|exact sz_wholeT _|exact h1 _|exact h2 _ _|exact h3 _ _ _ _ _)
theorem sz_textsGo (s:ByteArray) {t:Nat} (ht:t<=K) (c:ByteArray):∀ (vs:List V) (j:Nat) (ss:List ByteArray) (ns:List Int),Sz K (textsGo s t c vs j ss ns)
 | [],_,ss,ns=>sz_textDo s ht ss ns
 | v::r,j,ss,ns=>by
   unfold textsGo
   exact zAd (sz_textsGo s ht c r _ _ _) (zAd (zAS _) (zAd (zAS _) (sz_textsGo s ht c r _ _ _)))
theorem sz_texts (s:ByteArray) {t:Nat} (ht:t<=K) (vs:List V) (h:∀ v∈vs,Sz K v):Sz K (zBd s t vs):=by
 unfold zBd
 split
 ·rename_i v hv
  exact sz_find h hv
 ·split
  ·exact zAS _
  ·exact sz_textsGo s ht _ vs 0 [] []
theorem sz_getD {vs:List V} {d:V} (h:∀ v∈vs,Sz K v) (hd:Sz K d) (i:Nat):Sz K (vs.getD i d):=by
 rw[List.getD_eq_getElem?_getD]
 cases e:vs[i]? with
 | none=>exact hd
 | some v=>exact h v (List.mem_of_getElem? e)
theorem sz_truths (fy:Nat->Nat->Bool) (vs:List V) (h:∀ v∈vs,Sz K v):Sz K (zBM fy vs):=by
 unfold zBM
 split
 ·rename_i v hv
  exact sz_find h hv
 ·split
  ·exact zAS _
  ·exact sz_truth _
theorem sz_choose (vs:List V) (h:∀ v∈vs,Sz K v):Sz K (zC5 vs):=by
 unfold zC5
 split
 ·exact zAd (zAS _) (zAd (sz_getD (fun u hu=>h u (List.mem_cons_of_mem _ hu)) (zAS _) _) (zAS _))
 ·exact zAS _
theorem sz_iferr (vs:List V) (h:∀ v∈vs,Sz K v):Sz K (iferrG vs):=by
 unfold iferrG
 split
 ·exact zAd (h _ (by simp)) (h _ (by simp))
 ·exact zAS _
theorem sz_choice (vs:List V) (h:∀ v∈vs,Sz K v):Sz K (zB6 vs):=by
 unfold zB6
 split
 ·refine zAd (zAS _) (zAd (h _ (by simp)) ?_)
  split
  ·exact h _ (by simp)
  ·exact sz_truth _
 ·exact zAS _
theorem sz_ownDo (s:ByteArray) (vs:List V) (h:∀ v∈vs,Sz K v):Sz K (ownDo s vs):=by
 have h1:=sz_choose vs h
 have h2:=sz_iferr vs h
 have h3:=sz_choice vs h
 have h4:=fun f=>sz_truths f vs h
 unfold ownDo faultG errnoG typeG
 with_reducible repeat' (first|refine zAd ?_ ?_|exact h1|exact h2|exact h3|exact h4 _|exact zAS _|exact sz_truth _|exact sz_num _)
def AllSz (K:Nat) (pl:List (Arg×List En)):Prop:=∀ p∈pl,Sz K p.1.val/\∀ e∈p.2,Sz K e.v
theorem AllSz.items {pl:List (Arg×List En)} (h:AllSz K pl):∀ v∈zA4 pl,Sz K v:=fun v hv=>by
 unfold zA4 zC3 at hv
 obtain⟨p,hp,hv⟩:=List.mem_flatMap.1 hv
 rcases List.mem_append.1 hv with hv|hv
 ·split at hv
  ·simp at hv
  ·rw[List.mem_singleton.1 hv];exact(h p hp).1
 ·obtain⟨e,he,rfl⟩:=List.mem_map.1 hv
  exact(h p hp).2 e he
theorem AllSz.at {pl:List (Arg×List En)} (h:AllSz K pl) (i:Nat):Sz K (pl.getD i p0A).1.val/\∀ e∈(pl.getD i p0A).2,Sz K e.v:=by
 rw[List.getD_eq_getElem?_getD]
 cases e:pl[i]? with
 | none=>exact⟨Nat.zero_le _,fun e he=>by cases he⟩
 | some p=>exact h p (List.mem_of_getElem? e)
theorem sz_among {vs:List V} (h:∀ v∈vs,Sz K v):Sz K (zAA vs).2:=by
 unfold zAA
 split
 ·rename_i v hv
  exact sz_find h hv
 ·exact sz_zero
theorem sz_look (a:Arg) (p:Int×Int):∀ (es:List En) (v:V),(∀ e∈es,Sz K e.v)->Sz K v->Sz K (es.foldl (fun o e=>if plE a e=p then e.v else o) v)
 | [],_,_,h0=>h0
 | e::es,v,h,h0=>sz_look a p es _ (fun x hx=>h x (List.mem_cons_of_mem _ hx)) (zAd (h e (by simp)) h0)
theorem sz_lookG {a:Arg} {es:List En} (h:∀ e∈es,Sz K e.v) (p:Int×Int):Sz K (lookG a es p):=sz_look a p es zeroG h (Nat.zero_le _)
theorem sz_prodGo:∀ (l:List Int) (p:Int),Sz K (prodGo p l)
 | [],p=>sz_num _
 | x::l,p=>by
   unfold prodGo
   exact zAd (zAS _) (sz_prodGo l _)
theorem join_len (sep:List UInt8):∀ xs:List (List UInt8),xs≠[]->(Lib.join xs sep).length+sep.length=(xs.map fun x=>sep.length+x.length).sum
 | [],h=>absurd rfl h
 | [x],_=>by
   rw[Lib.join_one]
   simp
   omega
 | x::y::r,_=>by
   have h2:=join_len sep (y::r) (by simp)
   have e:Lib.join (x::y::r) sep=x++sep++Lib.join (y::r) sep:=by simp[Lib.join,List.intercalate]
   rw[e,List.map_cons,List.sum_cons,<-h2,List.length_append,List.length_append]
   omega
theorem join_size (sep:ByteArray) (l:List ByteArray) (h:l≠[]):((joinS sep l).size:Int)=((l.map fun x=>sep.size+x.size).sum:Nat)-(sep.size:Int):=by
 have h1:=join_len sep.data.toList (l.map (·.data.toList)) (by simpa using h)
 have e:(joinS sep l).size=(Lib.join (l.map (·.data.toList)) sep.data.toList).length:=List.size_toArray
 rw[List.map_map] at h1
 have e2:((fun x:List UInt8=>sep.data.toList.length+x.length) ∘ fun x:ByteArray=>x.data.toList)=fun x:ByteArray=>sep.size+x.size:=by
  funext x
  simp only[Function.comp,Array.length_toList]
  rfl
 have e3:sep.data.toList.length=sep.size:=Array.length_toList
 rw[e2,e3] at h1
 omega
theorem sz_joinGo {tx:Int} (ht:tx<=K) (sep:ByteArray):∀ (vs:List V) (n:Int) (l:List ByteArray),n=((l.map fun x=>sep.size+x.size).sum:Nat)-(sep.size:Int)->(l=[]∨n<=tx)->Sz K (joinGo tx sep n vs l)
 | [],n,l,hn,hl=>by
   unfold joinGo
   show (joinS sep l).size<=K
   by_cases h:l=[]
   ·subst h
    exact Nat.zero_le _
   ·have h1:=join_size sep l h
    have h2:=hl.resolve_left h
    omega
 | v::r,n,l,hn,hl=>by
   unfold joinGo
   split
   ·exact sz_joinGo ht sep r n l hn hl
   ·by_cases h:tx<n+((sep.size:Int)+((zAR v).1.size:Int))
    ·rw[if_pos h];exact zAS _
    ·rw[if_neg h]
     refine sz_joinGo ht sep r _ _ ?_ (.inr (by omega))
     rw[List.map_append,List.sum_append,hn]
     simp
     omega
theorem sz_aggDo (s:ByteArray) {tx:Int} (ht:tx<=K) {pl:List (Arg×List En)} (h:AllSz K pl):Sz K (aggDo s tx pl):=by
 have hi:=sz_among h.items
 have hd:=sz_among (show AllSz K (pl.drop 1) from fun p hp=>h p (List.mem_of_mem_drop hp)).items
 have h0:=sz_among (show AllSz K [pl.getD 0 p0A] from fun p hp=>by rw[List.mem_singleton.1 hp];exact h.at 0).items
 have hj:=sz_joinGo (K:=K) ht (zAR (pl.getD 0 p0A).1.val).1 (zA4 (pl.drop 1)) _ [] (show -((zAR (pl.getD 0 p0A).1.val).1.size:Int)=_ by simp) (.inl rfl)
 have hs:Sz K (sumifG (pl.getD 0 p0A).1 (pl.getD 0 p0A).2 (pl.getD 1 p0A).1.val (pl.getD 2 p0A).1 (pl.getD 2 p0A).2):=by
  unfold sumifG fitG
  have h1:=sz_among (K:=K) (vs:=sumifL (pl.getD 0 p0A).1 (pl.getD 0 p0A).2 (pl.getD 1 p0A).1.val (pl.getD 2 p0A).1 (pl.getD 2 p0A).2) (fun v hv=>by
   unfold sumifL at hv
   obtain⟨e,he,rfl⟩:=List.mem_map.1 hv
   exact(h.at 2).2 e (List.mem_filter.1 he).1)
  exact zAd (zAS _) (zAd h1 (zAd (zAS _) (sz_num _)))
 have hl:=fun (a:Arg) p=>sz_lookG (a:=a) (h.at 0).2 p
 have hl2:=fun (a:Arg) p=>sz_lookG (a:=a) (h.at 2).2 p
 have hm:Sz K (matchG (pl.getD 1 p0A).1 (pl.getD 1 p0A).2 (pl.getD 0 p0A).1.val):=by
  unfold matchG
  refine zAd (zAS _) ?_
  split
  ·exact sz_num _
  ·exact zAS _
 have hk:Sz K (lookupG (pl.getD 1 p0A).1 (pl.getD 1 p0A).2 (pl.getD 2 p0A).1 (pl.getD 2 p0A).2 (pl.getD 0 p0A).1.val):=by
  unfold lookupG
  refine zAd (zAS _) (zAd (zAS _) ?_)
  split
  ·exact hl2 _ _
  ·exact zAS _
 unfold aggDo
 unfold joinG largeG indexG countifG fitG
 with_reducible repeat' (first|refine zAd ?_ ?_|exact hi|exact hd|exact h0|exact hj|exact hs|exact hm|exact hk|exact hl _ _|exact zAS _|exact sz_num _|exact sz_prodGo _ _)
theorem sz_tabX (s:ByteArray) {tx:Int} (ht:tx<=K) {pl:List (Arg×List En)} (h:AllSz K pl):Sz K (tabX s pl tx):=by
 have hv:∀ v∈(pl.map Prod.fst).map Arg.val,Sz K v:=fun v hv=>by
  obtain⟨a,ha,rfl⟩:=List.mem_map.1 hv
  obtain⟨p,hp,rfl⟩:=List.mem_map.1 ha
  exact(h p hp).1
 unfold tabX
 split
 ·unfold zCG
  exact zAd (sz_ownDo s _ hv) (zAS _)
 ·split
  ·unfold zBE
   exact zAd (zAd (sz_nums s _ hv) (zAS _)) (zAS _)
  ·unfold zBH
   by_cases h0:tx<0∨1024<tx
   ·rw[if_pos h0];exact zAS _
   ·rw[if_neg h0]
    exact zAd (zAd (sz_texts s (by omega) _ hv) (zAS _)) (zAS _)
  ·unfold zBT
   refine zAd (zAS _) (zAd (zAd ?_ (zAS _)) (zAS _))
   unfold zCH
   split
   ·rename_i v hf
    exact sz_find hv hf
   ·exact sz_aggDo s ht h
  ·exact zAS _
end
def GK (C:Prop) (K:Nat) (v:V):Prop:=Good C v/\Sz K v
def GKit (C:Prop) (K:Nat):It->Prop
 | .val v=>GK C K v
 | .rect _ _ _ _ es=>es.length<=1048576/\∀ e∈es,GK C K e.v
theorem GK.szV {C:Prop} {K:Nat} {v:V} (h:GK C K v) (hK:K<=1048576):SzV v:=⟨h.1.2.2.to64,Nat.le_trans h.2 hK⟩
section
variable {C:Prop} {K:Nat}
theorem gk_zero:GK C K VO:=⟨good_zero C,sz_zero⟩
theorem gk_err {c:Int} (h:C->c≠1):GK C K (errG c):=⟨zAP C h,zAS c⟩
theorem gk_ite {p:Prop} [Decidable p] {a b:V} (h1:GK C K a) (h2:GK C K b):GK C K (if p then a else b):=by split<;>assumption
theorem gk_short {text:Int} {v:V} (h:Good C v) (ht:text<=K):GK C K (shortG text v):=by
 unfold shortG
 by_cases h0:text<v.str.size
 ·rw[if_pos h0];exact gk_err fun _=>by decide
 ·rw[if_neg h0];exact⟨h,by show v.str.size<=K;omega⟩
theorem gk_find {l:List En} (h:∀ e∈l,GK C K e.v) (r c:Int):GK C K (findN l r c):=by
 unfold findN
 split
 ·rename_i e he
  exact h e (List.mem_of_find?_eq_some he)
 ·exact gk_zero
theorem neg_pb {x:Int} (h:In63 x):PB (negX x):=by
 unfold negX
 refine zAy (zAu (by decide)) ⟨by simp,?_⟩
 unfold In63 at h ⊢
 simp only
 omega
theorem div_pb (a b:Int):PB (divX a b):=zAy (zAu (by decide)) (zAy (zAu (by decide)) (zAy (zAu (by decide)) (sign_pb _ _)))
theorem op_pb (op a b:Int):PB (opX op a b):=zAy (mul_pb _ _) (zAy (div_pb _ _) (zAy (add_pb _ _) (sub_pb _ _)))
theorem gk_numC {p:Int×Int} (h:PB p):GK C K (numC p):=⟨zBz C h,sz_numC p⟩
theorem gk_one {a:V} (h:GK C K a) (k:Int):GK C K (oneG k a):=by
 unfold oneG
 exact gk_ite (gk_err fun hC=>zCJ h.1 hC) (gk_ite (gk_numC (neg_pb (asNum_in h.1))) (gk_numC (div_pb _ _)))
theorem gk_two {text:Int} {a b:V} (ha:GK C K a) (hb:GK C K b) (ht:text<=K) (k:Int):GK C K (twoG text k a b):=by
 unfold twoG sumsG catG zBy
 refine gk_ite (gk_ite (gk_err fun hC=>zCJ ha.1 hC) (gk_ite (gk_err fun hC=>zCJ hb.1 hC) (gk_numC (op_pb _ _ _)))) (gk_ite (gk_ite (gk_err fun hC=>asTxt_ne ha.1 hC) (gk_ite (gk_err fun hC=>asTxt_ne hb.1 hC) ?_)) (gk_ite ha (gk_ite hb ⟨zBP C _,sz_truth _⟩)))
 by_cases h0:text<(zAR a).1.size+(zAR b).1.size
 ·rw[if_pos h0];exact gk_err fun _=>by decide
 ·rw[if_neg h0]
  refine⟨good_txt C _,?_⟩
  show ((zAR a).1++(zAR b).1).size<=K
  rw[ByteArray.size_append]
  omega
theorem GKit.v {i:It} (h:GKit C K i):GK C K i.v:=by
 cases i with
 | val v=>exact h
 | rect t l b r es=>exact gk_zero
theorem GKit.arg {i:It} (h:GKit C K i):(Good C i.arg.1.val/\∀ e∈i.arg.2,Good C e.v)/\(Sz K i.arg.1.val/\∀ e∈i.arg.2,Sz K e.v)/\i.arg.1.n<=1048576/\i.arg.2.length=i.arg.1.n:=by
 cases i with
 | val v=>exact⟨⟨h.1,fun e he=>by cases he⟩,⟨h.2,fun e he=>by cases he⟩,Nat.zero_le _,rfl⟩
 | rect t l b r es=>exact⟨⟨good_zero C,fun e he=>(h.2 e he).1⟩,⟨sz_zero,fun e he=>(h.2 e he).2⟩,h.1,rfl⟩
theorem gk_tab {its:List It} (h:∀ i∈its,GKit C K i) (s:ByteArray) {tx:Int} (ht:tx<=K):GK C K (tabP s its tx):=by
 have hm:∀ p∈its.map It.arg,∃ i∈its,i.arg=p:=fun p hp=>by
  obtain⟨i,hi,e⟩:=List.mem_map.1 hp
  exact⟨i,hi,e⟩
 refine⟨good_tabP (fun hC p hp=> ?_) (fun p hp=> ?_) (fun p hp=> ?_) (fun p hp=> ?_) s tx,sz_tabX s ht fun p hp=> ?_⟩
 all_goals
  obtain⟨i,hi,rfl⟩:=hm p hp
  have h1:=(h i hi).arg
 ·exact⟨h1.1.1.2.1 hC,fun e he=>(h1.1.2 e he).2.1 hC⟩
 ·exact⟨h1.1.1.2.2.to64,fun e he=>(h1.1.2 e he).2.2.to64⟩
 ·exact h1.2.2.1
 ·exact h1.2.2.2
 ·exact h1.2.1
theorem good_tell {l:List Td} {n:Int} (h64:∀ e∈l,Is64 e.v.num) (hn:In63 n) (hm:mayG (tellN l n)=true) (hc: ¬ (tellN l n).code=1):Good C (tellN l n):=by
 refine⟨hm,fun _=>hc,may_in hm ?_⟩
 unfold tellN
 split
 ·rename_i e he
  exact h64 e (List.mem_of_find?_eq_some he)
 ·exact hn.to64
theorem gk_ask {tb:Tb} {text:Int} {its:List It} (h:∀ i∈its,GKit C K i) (ht:text<=K) (h64:∀ e∈tb.told,Is64 e.v.num):GK C K (askG tb text its).1:=by
 have h8:GK C K (errG 8):=gk_err fun _=>by decide
 match its,h with
 | [],_=>exact h8
 | .val v::[],h =>
   have hv:GK C K v:=h (.val v) (by simp)
   show GK C K (askG tb text [.val v]).1
   unfold askG
   dsimp only
   by_cases h1:(zA5 v).2≠0
   ·rw[if_pos h1];exact gk_err fun hC=>zCJ hv.1 hC
   rw[if_neg h1]
   by_cases h2:tb.hn=true
   ·rw[if_pos h2];exact gk_err fun _=>by decide
   rw[if_neg h2]
   show GK C K (if mayG (tellN tb.told (zA5 v).1)=false∨(tellN tb.told (zA5 v).1).code=1 then errG 8 else shortG text (tellN tb.told (zA5 v).1))
   by_cases h0:mayG (tellN tb.told (zA5 v).1)=false∨(tellN tb.told (zA5 v).1).code=1
   ·rw[if_pos h0];exact h8
   ·rw[if_neg h0]
    refine gk_short (good_tell h64 (asNum_in hv.1) ?_ fun e=>h0 (.inr e)) ht
    cases hm:mayG (tellN tb.told (zA5 v).1) with
    | false=>exact absurd (.inl hm) h0
    | true=>rfl
 | .rect t l b r es::[],_=>exact h8
 | .val v::b::l,_=>exact h8
 | .rect t l b r es::b'::l',_=>exact h8
theorem mem_last {its:List It} (h:∀ i∈its,GKit C K i):GKit C K (its.getLastD (.val VO)):=by
 cases e:its.getLast? with
 | none=>rw[List.getLastD_eq_getLast?,e];exact gk_zero
 | some i=>rw[List.getLastD_eq_getLast?,e];exact h i (List.mem_of_getLast? e)
theorem mem_getD {its:List It} (h:∀ i∈its,GKit C K i) (k:Nat):GKit C K (its.getD k (.val VO)):=by
 rw[List.getD_eq_getElem?_getD]
 cases e:its[k]? with
 | none=>exact gk_zero
 | some i=>exact h i (List.mem_of_getElem? e)
theorem push_gk {its:List It} {i:It} (h:∀ i∈its,GKit C K i) (hi:GKit C K i) (k:Nat):∀ j∈its.take k++[i],GKit C K j:=fun j hj=>by
 rcases List.mem_append.1 hj with hj|hj
 ·exact h j (List.mem_of_mem_take hj)
 ·rw[List.mem_singleton.1 hj];exact hi
structure TbG (C:Prop) (K:Nat) (tb:Tb):Prop where
 en:∀ e∈tb.ents,GK C K e.v
 len:tb.ents.length<=1048576
 told:∀ e∈tb.told,Is64 e.v.num
theorem nd_good {x:Nx} (h:zBj x=true) (h1:x.kind=1) (h64:Is64 x.v.num):Good C x.v:=by
 unfold zBj at h
 rw[if_pos h1] at h
 by_cases h0:mayG x.v=false∨x.v.tag=0∨x.v.num<0∨x.v.code=1
 ·rw[if_pos h0] at h;cases h
 ·have hm:mayG x.v=true:=by
   cases hm:mayG x.v with
   | false=>exact absurd (.inl hm) h0
   | true=>rfl
  exact⟨hm,fun _ e=>h0 (.inr (.inr (.inr e))),may_in hm h64⟩
theorem wstep_gk {tb:Tb} {text:Int} {its:List It} {x:Nx} (hT:TbG C K tb) (ht:text<=K) (h:∀ i∈its,GKit C K i) (hm:zBj x=true) (h64:Is64 x.v.num):∀ i∈(zBv tb text its x).1,GKit C K i:=by
 have hall:∀ {l:List It} {i:It},(∀ j∈l,GKit C K j)->GKit C K i->∀ j∈l++[i],GKit C K j:=fun {l i} h1 h2 j hj=>by
  rcases List.mem_append.1 hj with hj|hj
  ·exact h1 j hj
  ·rw[List.mem_singleton.1 hj];exact h2
 have hd:∀ k,∀ i∈its.drop k,GKit C K i:=fun k i hi=>h i (List.mem_of_mem_drop hi)
 unfold zBv
 by_cases h1:x.kind=1
 ·rw[if_pos h1];exact hall h (show GK C K _ from gk_short (nd_good hm h1 h64) ht)
 rw[if_neg h1]
 by_cases h2:x.kind=2
 ·rw[if_pos h2];exact hall h (show GK C K _ from gk_find hT.en _ _)
 rw[if_neg h2]
 by_cases h3:x.kind=3
 ·rw[if_pos h3];exact hall h ⟨Nat.le_trans (rectN_le _ _ _ _ _) hT.len,fun e he=>hT.en e (List.mem_filter.1 he).1⟩
 rw[if_neg h3]
 by_cases h4:x.kind=4
 ·rw[if_pos h4]
  show ∀ i∈opG text x.op its,GKit C K i
  unfold opG
  split
  ·exact push_gk (i:=.val _) h (show GKit C K (.val _) from gk_one (mem_last h).v _) _
  ·exact push_gk (i:=.val _) h (show GKit C K (.val _) from gk_two (mem_getD h _).v (mem_last h).v ht _) _
 rw[if_neg h4]
 by_cases h5:x.name=⟨#[65,83,75]⟩
 ·rw[if_pos h5];exact push_gk (i:=.val _) h (show GKit C K (.val _) from gk_ask (hd _) ht hT.told) _
 ·rw[if_neg h5];exact push_gk (i:=.val _) h (show GKit C K (.val _) from gk_tab (hd _) _ ht) _
end
theorem wstep_many {tb:Tb} {text:Int} {its:List It} {ps ps':List P3} {x:Nx} (h:zBt ps x=some ps') (hi:its.map It.many=ps.map P3.m):(zBv tb text its x).1.map It.many=ps'.map P3.m:=by
 have hlen:its.length=ps.length:=by
  have h1:=congrArg List.length hi
  simpa using h1
 have hmay:zBj x=true:=by
  cases hm:zBj x with
  | true=>rfl
  | false=>rw[dstep_no hm] at h;cases h
 have htk:∀ k:Nat,(its.take k).map It.many=(ps.take k).map P3.m:=fun k=>by rw[List.map_take,List.map_take,hi]
 unfold zBv
 by_cases k3:x.kind=3
 ·rw[dstep_rect hmay k3] at h
  cases h
  rw[if_neg (by omega),if_neg (by omega),if_pos k3]
  simp[hi,It.many]
 by_cases k4:x.kind=4
 ·rw[dstep_op hmay k4] at h
  rw[if_neg (by omega),if_neg (by omega),if_neg k3,if_pos k4]
  show (opG text x.op its).map It.many=_
  unfold opG
  by_cases hu:x.op=1∨x.op=2
  ·rw[if_pos hu]
   rcases List.eq_nil_or_concat ps with rfl|⟨pre3,a3,rfl⟩
   ·rw[dOp_one0 hu] at h;cases h
   ·rw[List.concat_eq_append] at *
    rw[dOp_one hu] at h
    split at h
    ·cases h
    ·cases h
     rw[List.map_append,htk,hlen]
     simp[It.many,pOne]
  ·rw[if_neg hu]
   by_cases hl:ps.length<2
   ·rw[dOp_two0 hu ps hl] at h;cases h
   ·obtain⟨pre3,a3,b3,rfl⟩:=two_lastX ps (by omega)
    rw[dOp_two hu] at h
    split at h
    ·cases h
    ·cases h
     rw[List.map_append,htk,hlen]
     simp[It.many,pTwo]
 by_cases k5:x.kind=5
 ·rw[zBa hmay k5] at h
  split at h
  ·cases h
  ·cases h
   rw[if_neg (by omega),if_neg (by omega),if_neg k3,if_neg k4]
   split<;>(rw[List.map_append,List.map_append,htk,hlen];simp[It.many])
 rw[dstep_push hmay k3 k4 k5] at h
 cases h
 by_cases k1:x.kind=1
 ·rw[if_pos k1];simp[hi,It.many]
 ·by_cases k2:x.kind=2
  ·rw[if_neg k1,if_pos k2];simp[hi,It.many]
  ·exfalso
   unfold zBj at hmay
   rw[if_neg k1,if_neg k2,if_neg k3,if_neg k4,if_neg k5] at hmay
   cases hmay
theorem dstep_len {ps ps':List P3} {x:Nx} (h:zBt ps x=some ps'):ps'.length<=ps.length+1:=by
 have htk:∀ (k:Nat) (p:P3),(ps.take k++[p]).length<=ps.length+1:=fun k p=>by
  rw[List.length_append,List.length_take,List.length_singleton]
  omega
 cases hm:zBj x with
 | false=>rw[dstep_no hm] at h;cases h
 | true =>
   by_cases k3:x.kind=3
   ·rw[dstep_rect hm k3] at h;cases h;simp
   by_cases k4:x.kind=4
   ·rw[dstep_op hm k4] at h
    unfold dOp at h
    split at h
    ·split at h
     ·cases h
     ·split at h
      ·cases h
      ·cases h;exact htk _ _
    ·split at h
     ·split at h
      ·cases h
      ·split at h
       ·cases h
       ·cases h;exact htk _ _
     ·cases h
   by_cases k5:x.kind=5
   ·rw[zBa hm k5] at h
    split at h
    ·cases h
    ·cases h;exact htk _ _
   rw[dstep_push hm k3 k4 k5] at h
   cases h
   simp
theorem many_strip (pl:List (Arg×List En)):(pl.map zAH).map It.many=manyL pl:=by
 unfold manyL
 rw[List.map_map]
 refine List.map_congr_left fun p _=> ?_
 show (zAH p).many=p.1.many
 unfold zAH
 cases p.1.many<;>rfl
theorem wkArm_all (x:Nx) (pl:List (Arg×List En)) (bn off n c j pe:Nat) (tp:Addr) (text:Int) (h:Value) (w1 wr:World) (B:Nat) (tb:Tb) (ask0 t7 asked:Value) (na:Nat) (L:List Value) (Qn:Act->World->Prop) (Q0:Exit->Act->World->Prop) (s1 s3 s4 s5 s6 s8 s9 az bQ dA aC ag aA aJ aK aB aN aO aP ae iq iw jA dY dZ dh di dm dn dw eF eG eH eP eQ eU eX eY eu fA fB fC fD fE fF fG fH fJ ah fK fM fO fP fQ fU fV fZ gB gG gI gJ gK gQ gU gV gW gX gY gZ gm gp gq gu gy gz iC iD iE iG iH iJ iK iL iM iP iQ iR iT iU iW iY iZ ig ik bC bD bF bG bH bI bJ bK bM bP bT bU bV bZ bg bi bu cO cZ cu dB dC ai dD dE dF dG dH dI dJ dK dL dM dN dP dQ dR dS dU dV dW dX aS aQ aU aV aW aX aY aZ aF aG aH aI:Value) (C:Prop) (K:Nat) (ps ps':List P3)
  (hW:WX w1 wr B tb ask0 t7 pl asked na L) (hB1:B<=w1.heap.size) (hpl:pl.length<=j) (hj:j<n) (hn:n<=1024) (hcell:∀ i u,x.cells[i]? =some u->wr.cell? ⟨bn,off+(j*15+i),none⟩=some u) (hE:AtB wr pe (zAc tp text h)) (hna:na<=100000) (hds:zBt ps x=some ps') (hps:manyL pl=ps.map P3.m) (hGK:∀ i∈pl.map zAH,GKit C K i) (hTb:TbG C K tb) (hK:K<=1048576) (htx:text<=K) (h64x:Is64 x.v.num) (htp:tp=⟨tb.tp,0,none⟩) (hlib:∀ w',zBn tb.pt tb.tp ask0.ownBlock w1 w'->zBs w'/\MaxL w') (hh:HostOf tb h) (htold:tb.told.length<=1048576) (hpe:pe≠tb.pt) (hpe2:asked.ownBlock≠some pe)
  (htw:∀ (a b:V) (w':World),Is64 a.num->Is64 b.num->a.str.size<=1048576->b.str.size<=1048576->3<=x.op->x.op<=13->AtB w' pe (zAc tp text h)->zBn tb.pt tb.tp ask0.ownBlock w1 w'->Rt 24 #[.pointer (some ⟨pe,0,none⟩),.int .i64 x.op,(vG a),(vG b)] w' (vG (twoG text x.op a b)))
  (hNx:NxW x (pl.map zAH) bn off n c j pe w1 B tb text ask0 na L Qn s1 s3 s4 s5 s6 s8 aC ag aA aJ aK aB aN aO aP aF aG aH aI) :
  Code.wp Tryz.prog ((Tryz.f11.body.bind zAY).getD .skip) (Exit.then Qn (npQ Q0)) ⟨#[.pointer (some ⟨pe,0,none⟩),s1,.iface 31 (.pointer (some ⟨tb.pt,0,none⟩)),s3,s4,s5,s6,t7,s8,s9,az,bQ,dA,aC,ag,aA,aJ,aK,aB,aN,aO,aP,.slice (some ⟨bn,off,none⟩) n c,.int .i64 n,.int .i64 j,ae,iq,iw,jA,dY,dZ,dh,di,dm,dn,dw,eF,eG,eH,eP,eQ,eU,eX,eY,eu,fA,fB,fC,fD,fE,fF,fG,fH,fJ,ah,fK,fM,fO,fP,fQ,fU,fV,fZ,gB,gG,gI,gJ,gK,gQ,gU,gV,gW,gX,gY,gZ,gm,gp,gq,gu,gy,gz,iC,iD,iE,iG,iH,iJ,iK,iL,iM,iP,iQ,iR,iT,iU,iW,iY,iZ,ig,ik,bC,bD,bF,bG,bH,bI,bJ,bK,bM,bP,bT,bU,bV,bZ,bg,bi,bu,cO,cZ,cu,dB,dC,ai,dD,dE,dF,dG,dH,dI,dJ,dK,dL,dM,dN,dP,dQ,dR,dS,dU,dV,dW,dX,aS,aQ,aU,aV,aW,aX,aY,aZ,aF,aG,aH,aI],[]⟩ wr:=by
 have hmay:zBj x=true:=by
  cases hm:zBj x with
  | true=>rfl
  | false=>rw[dstep_no hm] at hds;cases hds
 have hents:=hTb.len
 have hgs:=wstep_gk hTb htx hGK hmay h64x
 by_cases k1:x.kind=1
 ·exact wkArm_value x pl bn off n c j pe tp text h w1 wr B tb ask0 t7 asked na L Qn Q0 hW hB1 hpl hj hn hcell hE hents hna k1 ((gk_short (nd_good (C:=C) hmay k1 h64x) htx).szV hK) @hNx
 by_cases k2:x.kind=2
 ·exact wkArm_cell x pl bn off n c j pe tp text h w1 wr B tb ask0 t7 asked na L Qn Q0 hW hB1 hpl hj hn hcell hE hents hna k2 ((gk_find hTb.en _ _).szV hK) @hNx
 by_cases k3:x.kind=3
 ·exact wkArm_rect x pl bn off n c j pe tp text h w1 wr B tb ask0 t7 asked na L Qn Q0 hW hB1 hpl hj hn hcell hE hents hna k3 (fun e he=>(hTb.en e he).szV hK) @hNx
 have hmem:∀ p∈pl,GKit C K (zAH p):=fun p hp=>hGK _ (List.mem_map_of_mem hp)
 by_cases k4:x.kind=4
 ·rw[dstep_op hmay k4] at hds
  have hop:=ndMay_op hmay k4
  by_cases hu:x.op=1∨x.op=2
  ·rcases List.eq_nil_or_concat ps with rfl|⟨pre3,a3,rfl⟩
   ·rw[dOp_one0 hu] at hds;cases hds
   ·rw[List.concat_eq_append] at hds hps
    rw[dOp_one hu] at hds
    have ha3:a3.m=false:=by
     cases hm:a3.m with
     | false=>rfl
     | true=>rw[hm] at hds;cases hds
    rw[List.map_append,List.map_cons,ha3] at hps
    obtain⟨pre,a,rfl,-⟩:=shape1 hW.wf hps
    have ga:GK C K a:=hmem (vArg a,[]) (by simp)
    have gv:=(gk_one ga x.op).szV hK
    rcases hu with hu|hu
    ·exact wkArm_op1 x bn off n c j pe tp text h w1 wr B tb ask0 t7 asked na L Qn Q0 pre a hW hB1 hpl hj hn hcell hE hents hna k4 hu (ga.szV hK).1 gv @hNx
    ·exact wkArm_op2 x bn off n c j pe tp text h w1 wr B tb ask0 t7 asked na L Qn Q0 pre a hW hB1 hpl hj hn hcell hE hents hna k4 hu (ga.szV hK).1 gv @hNx
  ·by_cases hl:ps.length<2
   ·rw[dOp_two0 hu ps hl] at hds;cases hds
   ·obtain⟨pre3,a3,b3,rfl⟩:=two_lastX ps (by omega)
    rw[dOp_two hu] at hds
    have hab:a3.m=false/\b3.m=false:=by
     cases hm:a3.m<;>cases hm2:b3.m<;>first|exact⟨rfl,rfl⟩|(rw[hm,hm2] at hds;cases hds)
    rw[List.map_append,List.map_cons,List.map_cons,hab.1,hab.2] at hps
    obtain⟨pre,a,b,rfl,-⟩:=shape2 hW.wf hps
    have ga:GK C K a:=hmem (vArg a,[]) (by simp)
    have gb:GK C K b:=hmem (vArg b,[]) (by simp)
    have sa:=ga.szV hK
    have sb:=gb.szV hK
    exact wkArm_op3 x bn off n c j pe tp text h w1 wr B tb ask0 t7 asked na L Qn Q0 pre a b hW hB1 hpl hj hn hcell hE hents hna k4 hu ((gk_two ga gb htx x.op).szV hK) (fun w' h1 h2=>htw a b w' sa.1 sb.1 sa.2 sb.2 (by omega) (by omega) h1 h2) @hNx
 by_cases k5:x.kind=5
 ·rw[zBa hmay k5] at hds
  have har:=ndMay_args hmay k5
  have hlen:ps.length=pl.length:=by
   have h1:=congrArg List.length hps
   simpa [manyL] using h1.symm
  by_cases hl:ps.length<x.args.toNat
  ·rw[if_pos hl] at hds;cases hds
  obtain⟨pre,args,rfl,hal,-⟩:=shapeN hps x.args.toNat (by rw[List.length_map];omega)
  have hax:x.args=(args.length:Int):=by omega
  have hga:∀ i∈args.map zAH,GKit C K i:=fun i hi=>by
   obtain⟨p,hp,rfl⟩:=List.mem_map.1 hi
   exact hmem p (List.mem_append_right _ hp)
  have h16:args.length<=16:=by omega
  by_cases hnm:x.name=⟨#[65,83,75]⟩
  ·have gv:=(gk_ask (tb:=tb) hga htx hTb.told).szV hK
   by_cases h0:0<args.length
   ·exact wkArm_ask x bn off n c j pe tp text h w1 wr B tb ask0 t7 asked na L Qn Q0 pre args hW hB1 hpl hj hn hcell hE hents hna k5 hax h0 h16 hnm gv hh htold hpe hpe2 @hNx
   ·obtain rfl:args=[]:=List.length_eq_zero_iff.1 (by omega)
    simp only[List.append_nil] at hW hpl hNx
    exact wkArm_ask0 x bn off n c j pe tp text h w1 wr B tb ask0 t7 asked na L Qn Q0 pre hW hB1 hpl hj hn hcell hE hents hna k5 hax hnm gv hh htold hpe hpe2 @hNx
  ·have hnl: ¬ x.name.toList=[65,83,75]:=fun e=>hnm (by
    rw[ByteArray.toList_eq] at e
    exact ByteArray.ext (Array.toList_inj.1 e))
   have hst:=tabP_strip x.name text args (fun p hp=>hW.wf p (List.mem_append_right _ hp)) (fun p hp=>(hW.ents p (List.mem_append_right _ hp)).1)
   have gv:=(gk_tab hga x.name htx).szV hK
   rw[<- hst] at gv
   by_cases h0:0<args.length
   ·exact wkArm_call x bn off n c j pe tp text h w1 wr B tb ask0 t7 asked na L Qn Q0 pre args hW hB1 hpl hj hn hcell hE hents hna k5 htp hax h0 h16 hnl hst gv hlib @hNx
   ·obtain rfl:args=[]:=List.length_eq_zero_iff.1 (by omega)
    simp only[List.append_nil] at hW hpl hNx
    exact wkArm_call0 x bn off n c j pe tp text h w1 wr B tb ask0 t7 asked na L Qn Q0 pre hW hB1 hpl hj hn hcell hE hents hna k5 htp hax hnl gv hlib @hNx
 ·exfalso
  unfold zBj at hmay
  rw[if_neg k1,if_neg k2,if_neg k3,if_neg k4,if_neg k5] at hmay
  cases hmay
def workG (tb:Tb) (text:Int) (xs:List Nx):V×List Ak:=if zBD xs then wGo tb text xs [] [] else (errG 8,[])
theorem np_mono (Qn:Act->World->Prop) (Q0:Exit->Act->World->Prop):∀ e a w,Exit.then Qn (npQ Q0) e a w->Exit.then Qn Q0 e a w:=fun e a w h=>by
 cases e<;>first|exact h|exact h.elim
structure WorkPost (w w':World) (B:Nat) (tb:Tb) (asked:Value) (na n:Nat) (L:List Value) (ak:List Ak):Prop where
 ex:∃ asked' na',SrcG w' B tb asked' na' (L++zBi Ak.cells ak)/\na'<=na+n/\(asked'.ownBlock=asked.ownBlock∨∀ k,asked'.ownBlock=some k->w.heap.size<=k)/\(na'=0->asked'.ownBlock=none)
 kept:zBn tb.pt tb.tp asked.ownBlock w w'
 tab:zCF w' tb.tp
theorem zBn.set {pt tp:Nat} {row:Option Nat} {w w':World} (h:zBn pt tp row w w') {b i:Nat} {u:Value} (hb:w.heap.size<=b):zBn pt tp row w (w'.setCell ⟨b,i,none⟩ u) :=
 ⟨h.1,h.2.1,h.2.2.1,by simpa using h.2.2.2.1,fun k hk hp ht hr=>(heap_setCell_other w' ⟨b,i,none⟩ k u (by show k≠b;omega)).trans (h.2.2.2.2 k hk hp ht hr)⟩
theorem work_done {w w1 wr:World} {B b:Nat} {tb:Tb} {asked t7 ask1:Value} {pl:List (Arg×List En)} {na na1 n:Nat} {L L1:List Value} {ak:List Ak} (h:WX w1 wr B tb asked t7 pl ask1 na1 L1) (hb:Below w.heap.size w w1) (hB:B<=w.heap.size) (ha:∀ k,asked.ownBlock=some k->k<w.heap.size) (hwb:w.heap.size<=b) (hbl:b<w1.heap.size) (hz:wr.heap[b]? =some zeroV)
  (hn:na1<=na+n) (hL:L1=L++zBi Ak.cells ak) (v:V):WorkPost w (setV wr b 0 v) B tb asked na n L ak:=by
 have hs:=hb.size
 have h3:ask1.ownBlock≠some b:=fun e=>by
  rcases h.row with hr|hr
  ·have:=ha b (hr ▸ e);omega
  ·have:=hr b e;omega
 have h1:B<=b:=by omega
 have hk:zBn tb.pt tb.tp asked.ownBlock w wr:=(zBn.of_below hb).trans h.kept (.inl rfl)
 subst hL
 refine⟨⟨ask1,na1,(((((h.src.set h1 h3).set h1 h3).set h1 h3).set h1 h3).set h1 h3),hn,?_,h.lf.2⟩,(((((hk.set hwb).set hwb).set hwb).set hwb).set hwb),tab_setV h.tab hz⟩
 rcases h.row with hr|hr
 ·exact .inl hr
 ·exact .inr fun k hk=>by have:=hr k hk;omega
theorem check_dGo {xs:List Nx} (h:zBD xs=true):1<=xs.length/\xs.length<=1024/\∃ d,dGo xs []=(d,true):=by
 unfold zBD depthG at h
 by_cases h1:xs.length<1∨1024<xs.length
 ·rw[if_pos h1] at h;cases h
 ·rw[if_neg h1] at h
  simp only[Bool.and_eq_true] at h
  exact⟨by omega,by omega,(dGo xs []).1,Prod.ext rfl h.1⟩
theorem dGo_end {ps:List P3} {d:Int} (h:dGo [] ps=(d,true)):∃ p,ps=[p]/\p.m=false:=by
 match ps,h with
 | [],h=>cases h
 | [p],h =>
   refine⟨p,rfl,?_⟩
   cases hm:p.m with
   | false=>rfl
   | true =>
     have h':(if p.m then (0,false) else (p.d,true))=(d,true):=h
     rw[hm] at h'
     cases h'
 | _::_::_,h=>cases h
theorem eval_WorkX (xs:List Nx) (bn off n c B0 pe:Nat) (text:Int) (h:Value) (C:Prop) (K:Nat) (w:World) (B:Nat) (tb:Tb) (asked:Value) (na:Nat) (L:List Value)
  (hr:Reads w B0 15 (some ⟨bn,off,none⟩) n (zBi Nx.cells xs)) (hck:zBD xs=true) (hnm:∀ x∈xs,x.name.size<=1000000000000) (h64:∀ x∈xs,Is64 x.v.num)
  (hE:AtB w pe (zAc ⟨tb.tp,0,none⟩ text h)) (hh:HostOf tb h) (hs:SrcG w B tb asked na L) (hna:na<=90000) (hT:TbG C K tb) (hK:K<=1048576) (htx:text<=K) (htold:tb.told.length<=1048576)
  (hlf:(∃ aks,L=zBi Ak.cells aks)/\(na=0->asked.ownBlock=none)) (hB:FarT tb) (htab:zCF w tb.tp) (hat:asked.ownBlock≠some tb.tp)
  (hpe:pe≠tb.pt) (hpe2:asked.ownBlock≠some pe) (hpe3:pe≠tb.tp) (hbn:bn≠tb.pt) (hbn2:asked.ownBlock≠some bn) (hbn3:bn≠tb.tp)
  (hlib:∀ w',zBn tb.pt tb.tp asked.ownBlock w w'->zBs w'/\MaxL w') :
  Calls Tryz.prog 11 #[.pointer (some ⟨pe,0,none⟩),.agg #[.slice (some ⟨bn,off,none⟩) n c],.iface 31 (.pointer (some ⟨tb.pt,0,none⟩))] w fun e w'=>e=.returned (vG ((workG tb text xs).1))/\WorkPost w w' B tb asked na n L (workG tb text xs).2/\GK C K (workG tb text xs).1:=by
 have hlen:xs.length=n:=by
  have:=hr.1
  rw[zAD Nx.cells 15 Nx.cells_length] at this
  omega
 obtain⟨hn1,hn2,d,hd⟩:=check_dGo hck
 rw[hlen] at hn1 hn2
 obtain⟨R,hR⟩:∃ R,wGo tb text xs [] []=R:=⟨_,rfl⟩
 rw[show workG tb text xs=R from by unfold workG;rw[if_pos hck];exact hR]
 have hba:∀ k,asked.ownBlock=some k->k<w.heap.size:=fun k hk=>(hs.own.lt k hk).2
 have hptl:tb.pt<w.heap.size:=by have:=hs.lt;have:=hs.le;omega
 have htpl:=htab.lt
 have hBw:=hs.le
 have HS:=zh hs
 have HR:=zh hr
 have HE:=zh hE
 have HWR:=zh hR
 have HD:=zh hd
 have HCK:=zh hck
 have HT:=zh hT
 have HLF:=zh hlf
 have HTAB:=zh htab
 have HLIB:=zh hlib
 have HBA:=zh hba
 have HNE:=zh (show asked.ownBlock≠some (w.heap.size+1) from fun e=>by have:=hba _ e;omega)
 have HN:=zh (And.intro hat (And.intro hpe (And.intro hpe2 (And.intro hpe3 (And.intro hbn (And.intro hbn2 hbn3))))))
 have HH:=zh hh
 have HX:=zh (And.intro hnm h64)
 have HLE:=zh hlen
 clear hs hr hE hR hd hck hT hlf htab hlib hba hat hpe hpe2 hpe3 hbn hbn2 hbn3 hh hnm h64 hlen
 go_enter Tryz.func11,Tryz.ntmps11
 go_wp2_with(first|(go_at_call 20;refine(refs_CheckX xs _ n c B0 _ (HR.out.keeps kps) (by omega) HX.out.1).mono ?_;rw[HCK.out];rintro e w1 ⟨rfl,hb⟩;have hs1:=hb.size;have hs1':w.heap.size+1+1<=w1.heap.size:=(by simpa using hs1);have hbx:w1.cell? ⟨w.heap.size,0,none⟩=some (.slice (some ⟨bn,off,none⟩) n c):=cell_below (zAB ((AtB.new rfl) 0 _ rfl) _) hb;have HB1:=zh (show Below w.heap.size w w1 from Below.trans (show Below w.heap.size w _ from bel) (hb.mono (by simp;omega)));have hz:w1.heap[w.heap.size+1]? =some (.cells #[.int .i64 0,.int .i64 0,.string ⟨#[]⟩,.bool false,.int .i64 0] 44 (0,0)):=(hb.block _ (by simp)).trans (by have h:=heap_alloc_new (w.alloc (.cells #[.slice (some ⟨bn,off,none⟩) n c] 24)) zObj;simpa using h);have HZ:=zh hz;clear hb hs1 hz))
 have HC:=zh (show ∀ j u,(zBi Nx.cells xs)[j]? =some u->w1.cell? ⟨bn,off+j,none⟩=some u from fun j u hu=>by
  obtain⟨b',o',e1,_,hc⟩:=HR.out.2 (by omega)
  cases e1
  exact cell_below (hc j u hu) HB1.out)
 have HW0:=zh (show WX w1 w1 B tb asked (.slice none 0 0) [] asked na L from
  ⟨HS.out.below HB1.out,zBn.of_below (Below.refl _ _),.inl rfl,World.ownsRow_nil _ _ _ _,(fun k hk e=>by cases e),(fun p hp=>by cases hp),(fun p hp=>by cases hp),(fun p hp=>by cases hp),⟨hB,by omega,HN.out.1⟩,HLF.out,(fun k hk=>by cases hk),HTAB.out.below HB1.out⟩)
 have HLIB1:=zh (show ∀ w',zBn tb.pt tb.tp asked.ownBlock w1 w'->zBs w'/\MaxL w' from fun w' hk=>HLIB.out w' ((zBn.of_below HB1.out).trans hk (.inl rfl)))
 go_loopw [24,7] (fun nV t7 wr=>∃ (j:Nat) (pl:List (Arg×List En)) (ask1:Value) (na1:Nat) (ak:List Ak) (ps:List P3),j<=n/\nV=.int .i64 j/\WX w1 wr B tb asked t7 pl ask1 na1 (L++zBi Ak.cells ak)/\na1<=na+j/\pl.length<=j/\RowKit.Hid (dGo (xs.drop j) ps=(d,true)/\manyL pl=ps.map P3.m/\(∀ i∈pl.map zAH,GKit C K i)/\wGo tb text (xs.drop j) (pl.map zAH) ak=R)) (fun t _ _=>n-(intOf t).toNat)
 case atStart=>exact⟨0,[],asked,na,[],[],Nat.zero_le _,rfl,by simpa [zBi] using HW0.out,by omega,Nat.le_refl _,zh ⟨HD.out,rfl,(fun i hi=>by cases hi),HWR.out⟩⟩
 case round =>
  obtain⟨j,pl,ask1,na1,ak,ps,hj,rfl,hW,hna1,hpl,hI⟩:=hrel
  have hsw:=hW.kept.2.2.2.1
  by_cases hlt:j<n
  ·obtain⟨x,hx⟩:∃ x,xs[j]? =some x:=⟨_,List.getElem?_eq_getElem (show j<xs.length by have:=HLE.out;omega)⟩
   have hcell:∀ i u,x.cells[i]? =some u->wr.cell? ⟨bn,off+(j*15+i),none⟩=some u:=fun i u hu=>hW.cell HN.out.2.2.2.2.1 HN.out.2.2.2.2.2.2 HN.out.2.2.2.2.2.1 (HC.out _ u (zA9 Nx.cells 15 Nx.cells_length xs j x hx i u hu))
   have hE1:AtB wr pe (zAc ⟨tb.tp,0,none⟩ text h):=fun i u hu=>hW.cell HN.out.2.1 HN.out.2.2.2.1 HN.out.2.2.1 (HE.out.below HB1.out i u hu)
   have hdr:xs.drop j=x::xs.drop (j+1):=by
    obtain⟨hm,hv⟩:=List.getElem?_eq_some_iff.1 hx
    rw[List.drop_eq_getElem_cons hm,hv]
   obtain⟨hg,hmp,hgk,hwg⟩:=hI.out
   rw[hdr] at hg hwg
   rw[dGo_cons] at hg
   have hxm:=List.mem_of_getElem? hx
   have hpe2':ask1.ownBlock≠some pe:=fun e=>by
    rcases hW.row with hr|hr
    ·exact HN.out.2.2.1 (hr ▸ e)
    ·have h1:=hr pe e
     have h2:=zA2 (HE.out 0 _ rfl)
     have h3:=HB1.out.size
     omega
   have htw:∀ (a b:V) (w':World),Is64 a.num->Is64 b.num->a.str.size<=1048576->b.str.size<=1048576->3<=x.op->x.op<=13->AtB w' pe (zAc ⟨tb.tp,0,none⟩ text h)->zBn tb.pt tb.tp asked.ownBlock w1 w'->Rt 24 #[.pointer (some ⟨pe,0,none⟩),.int .i64 x.op,(vG a),(vG b)] w' (vG (twoG text x.op a b)) :=
    fun a b w' h1 h2 h3 h4 h5 h6 h7 h8=>eval_two pe _ text x.op h5 h6 a b ⟨h1,by omega⟩ ⟨h2,by omega⟩ w' h7 (HLIB1.out w' h8).1
   cases hst:zBt ps x with
   | none=>rw[hst] at hg;cases hg
   | some ps' =>
     rw[hst] at hg
     refine Code.wp_mono (np_mono _ _) (wkArm_all x pl bn off n c j pe ⟨tb.tp,0,none⟩ text h w1 wr B tb asked _ ask1 na1 (L++zBi Ak.cells ak) _ _ _ _ _ _ _ _ _ _ _ _ _ _ _ _ _ _ _ _ _ _ _ _ _ _ _ _ _ _ _ _ _ _ _ _ _ _ _ _ _ _ _ _ _ _ _ _ _ _ _ _ _ _ _ _ _ _ _ _ _ _ _ _ _ _ _ _ _ _ _ _ _ _ _ _ _ _ _ _ _ _ _ _ _ _ _ _ _ _ _ _ _ _ _ _ _ _ _ _ _ _ _ _ _ _ _ _ _ _ _ _ _ _ _ _ _ _ _ _ _ _ _ _ _ _ _ _ _ _ _ _ _ _ _ _ _ _ _ _ _ _ _ _ _ _ _ _ _ _ C K ps ps' hW (by omega) hpl hlt hn2 hcell hE1 (by omega) hst hmp hgk HT.out hK htx (HX.out.2 x hxm) rfl HLIB1.out HH.out htold HN.out.2.1 hpe2' htw ?_)
     intro v7 v9 jr kH kT o6 oZ og oh lM lN jV jW lQ jX jY jP jC lS jZ lT ja lU lV jQ lW jB jb jc lX jd jF je jD lY jf lZ jg lh jR jh lm mD ji jE jk jl jm mF mG jG mJ jH mM mO jS jT mP mQ mV mW mX mY mZ mf mg mi mr nC nD nG nH nI nJ nK nM nN nO nP nR jv jw jy kC kD jJ kE kF kG jU kJ kK kL kM kN kP kQ jK kR kS kU kV kW kX jL kY kZ jI ku kw kz lC lD lF lG lH lI lJ jM jO lK lL oM oN oO oP ng oQ oI oU pl' ask2 na2 L2 w2 hp2 hL2 hn2' hW2
     have hmay:zBj x=true:=by
      cases hm:zBj x with
      | true=>rfl
      | false=>rw[dstep_no hm] at hst;cases hst
     have hI2:=zh (show dGo (xs.drop (j+1)) ps'=(d,true)/\manyL pl'=ps'.map P3.m/\(∀ i∈pl'.map zAH,GKit C K i)/\wGo tb text (xs.drop (j+1)) (pl'.map zAH) (ak++(zBv tb text (pl.map zAH) x).2)=R from
      ⟨hg,by rw[<- many_strip,hp2];exact wstep_many hst ((many_strip pl).trans hmp),by rw[hp2];exact wstep_gk HT.out htx hgk hmay (HX.out.2 x hxm),by rw[hp2];exact hwg⟩)
     have hlp:pl'.length<=j+1:=by
      have h1:=congrArg List.length hI2.out.2.1
      have h2:=congrArg List.length hmp
      have h3:=dstep_len hst
      simp only[manyL,List.length_map] at h1 h2
      omega
     rw[List.append_assoc,<-zAC] at hL2
     subst hL2
     refine⟨?_,?_⟩
     ·(repeat apply Exists.intro)
      exact⟨⟨j+1,pl',ask2,na2,_,ps',by omega,rfl,hW2,by omega,hlp,hI2⟩,rfl⟩
     ·simp[intOf]
      omega
  ·obtain rfl:j=n:=by omega
   obtain⟨hg,hmp,hgk,hwg⟩:=hI.out
   rw[List.drop_eq_nil_of_le (by rw[HLE.out];exact Nat.le_refl _)] at hg hwg
   obtain⟨p3,rfl,hp3⟩:=dGo_end hg
   rw[List.map_cons,List.map_nil,hp3] at hmp
   obtain⟨pre,r,rfl,hpre⟩:=shape1 (l3:=[]) hW.wf hmp
   obtain rfl:pre=[]:=by simpa [manyL] using hpre
   have hRR:R=(r,ak):=hwg.symm
   have hrk:GK C K r:=hgk (.val r) (by simp[zAH,vArg])
   obtain⟨g,cc,rfl,hcap,hcm,hbg,hgl,hcl,hfz⟩:=zAf hW.own (by simp)
   have e1:wr.cell? ⟨g,1,none⟩=some (.int .i64 r.tag):=hcl 1 _ rfl
   have e2:wr.cell? ⟨g,2,none⟩=some (.int .i64 r.num):=hcl 2 _ rfl
   have e3:wr.cell? ⟨g,3,none⟩=some (.string r.str):=hcl 3 _ rfl
   have e4:wr.cell? ⟨g,4,none⟩=some (.bool r.is):=hcl 4 _ rfl
   have e5:wr.cell? ⟨g,5,none⟩=some (.int .i64 r.code):=hcl 5 _ rfl
   have hz:wr.heap[w.heap.size+1]? =some (.cells #[.int .i64 0,.int .i64 0,.string ⟨#[]⟩,.bool false,.int .i64 0] 44 (0,0)):=(hW.kept.2.2.2.2 _ (by omega) (by omega) (by omega) HNE.out).trans HZ.out
   have v0:wr.cell? ⟨w.heap.size+1,0,none⟩=some (.int .i64 0):=cell_of_row wr _ 0 _ _ (0,0) hz
   have v1:wr.cell? ⟨w.heap.size+1,1,none⟩=some (.int .i64 0):=cell_of_row wr _ 1 _ _ (0,0) hz
   have v2:wr.cell? ⟨w.heap.size+1,2,none⟩=some (.string ⟨#[]⟩):=cell_of_row wr _ 2 _ _ (0,0) hz
   have v3:wr.cell? ⟨w.heap.size+1,3,none⟩=some (.bool false):=cell_of_row wr _ 3 _ _ (0,0) hz
   have v4:wr.cell? ⟨w.heap.size+1,4,none⟩=some (.int .i64 0):=cell_of_row wr _ 4 _ _ (0,0) hz
   have f0:=frozen_of_row wr (w.heap.size+1) 0 _ _ hz
   have f1:=frozen_of_row wr (w.heap.size+1) 1 _ _ hz
   have f2:=frozen_of_row wr (w.heap.size+1) 2 _ _ hz
   have f3:=frozen_of_row wr (w.heap.size+1) 3 _ _ hz
   have f4:=frozen_of_row wr (w.heap.size+1) 4 _ _ hz
   have HDN:=zh (work_done (b:=w.heap.size+1) hW HB1.out hBw HBA.out (by omega) (by omega) hz hna1 rfl r)
   have HRR:=zh hRR
   have HRK:=zh hrk
   clear hg hmp hgk hwg hpre hRR hrk hcl hfz hz hI
   have hlW:=zh hW
   clear hW
   go_wp2
   refine bodyPost_ret (by simp[results,Tryz.results11,go_sem,zAa,v0,v1,v2,v3,v4];try rfl) rfl ?_
   rw[HRR.out]
   exact⟨rfl,HDN.out,HRK.out⟩
def numV (n:Int):V:=⟨1,n,⟨#[]⟩,false,0⟩
def xs3:List Nx:=[⟨2,VZ,1,1,0,0,0,0,0,⟨#[]⟩,0⟩,⟨1,numV 15000,0,0,0,0,0,0,0,⟨#[]⟩,0⟩,⟨4,VZ,0,0,0,0,0,0,5,⟨#[]⟩,0⟩]
def en3:List En:=[⟨1,1,numV 20000⟩]
theorem check3:zBD xs3=true:=by decide +kernel
def tb3 (pt tp e:Nat):Tb:=⟨pt,some ⟨e,0,none⟩,1,en3,true,none,0,[],tp,false⟩
theorem work3 (pt tp e:Nat):(workG (tb3 pt tp e) 4 xs3).1=numV 35000:=by
 unfold workG
 rw[if_pos check3]
 rfl
theorem tbG3 (pt tp e:Nat):TbG True 4 (tb3 pt tp e):=by
 refine⟨fun x hx=> ?_,by show (1:Nat)<=1048576;decide,fun x hx=>by cases hx⟩
 obtain rfl:x=⟨1,1,numV 20000⟩:=by simpa [tb3,en3] using hx
 exact⟨⟨by decide +kernel,fun _=>by decide,by decide,by decide⟩,by show (0:Nat)<=4;decide⟩
theorem nm3:∀ x∈xs3,x.name.size<=1000000000000:=by
 intro x hx
 simp only[xs3,List.mem_cons,List.not_mem_nil,or_false] at hx
 rcases hx with rfl|rfl|rfl<;>decide
theorem i643:∀ x∈xs3,Is64 x.v.num:=by
 intro x hx
 simp only[xs3,List.mem_cons,List.not_mem_nil,or_false] at hx
 unfold Is64
 rcases hx with rfl|rfl|rfl<;>decide
theorem nodes3 {X:World} {bn:Nat} (h:bn=X.heap.size):Reads (X.alloc (.cells #[.int .i64 2,.int .i64 0,.int .i64 0,.string ⟨#[]⟩,.bool false,.int .i64 0,.int .i64 1,.int .i64 1,.int .i64 0,.int .i64 0,.int .i64 0,.int .i64 0,.int .i64 0,.string ⟨#[]⟩,.int .i64 0,.int .i64 1,.int .i64 1,.int .i64 15000,.string ⟨#[]⟩,.bool false,.int .i64 0,.int .i64 0,.int .i64 0,.int .i64 0,.int .i64 0,.int .i64 0,.int .i64 0,.int .i64 0,.string ⟨#[]⟩,.int .i64 0,.int .i64 4,.int .i64 0,.int .i64 0,.string ⟨#[]⟩,.bool false,.int .i64 0,.int .i64 0,.int .i64 0,.int .i64 0,.int .i64 0,.int .i64 0,.int .i64 0,.int .i64 5,.string ⟨#[]⟩,.int .i64 0] 88)) (bn+1) 15 (some ⟨bn,0,none⟩) 3 (zBi Nx.cells xs3):=by
 subst h
 exact⟨rfl,fun _=>⟨X.heap.size,0,rfl,Nat.lt_succ_self _,fun j u hu=>by rw[Nat.zero_add];exact(AtB.new rfl) j u hu⟩⟩
theorem src3 {X:World} {o:Obj} {n0 tp:Nat} (h:n0=X.heap.size):SrcG (((X.alloc (.cells #[.int .i64 1,.int .i64 1,.int .i64 1,.int .i64 20000,.string ⟨#[]⟩,.bool false,.int .i64 0] 57)).alloc (.cells #[.slice (some ⟨n0,0,none⟩) 1 1,.slice none 0 0,.bool false,.slice none 0 0] 52)).alloc o) (n0+1+1) (tb3 (n0+1) tp n0) (.slice none 0 0) 0 []:=by
 subst h
 refine⟨by show X.heap.size+1<_;omega,by simp,?_,?_,?_,⟨rfl,fun h=>absurd h (Nat.lt_irrefl 0)⟩,World.ownsRow_nil _ _ _ _⟩
 ·exact AtB.zAv (fun j u hu=>(AtB.new (by show X.heap.size+1=_;simp)) j u hu) _
 ·exact zBX (frozen_of_row _ _ _ _ _ (by have h:=heap_alloc_new (X.alloc (.cells #[.int .i64 1,.int .i64 1,.int .i64 1,.int .i64 20000,.string ⟨#[]⟩,.bool false,.int .i64 0] 57)) (.cells #[.slice (some ⟨X.heap.size,0,none⟩) 1 1,.slice none 0 0,.bool false,.slice none 0 0] 52);rw[alz] at h;exact h)) (by rw[alz,alz];show X.heap.size+1<_;omega) _
 ·exact⟨rfl,fun _=>⟨X.heap.size,0,rfl,by omega,by show X.heap.size≠X.heap.size+1;omega,fun j u hu=>by rw[Nat.zero_add];exact AtB.zAv (AtB.zAv (AtB.new rfl) _) _ j u hu⟩⟩
theorem zBn.base {pt tp B:Nat} {row:Option Nat} {w X w2:World} (h:zBn pt tp row X w2) (hb:Below B w X) (hB:B<=w.heap.size) (hp:B<=pt) (ht:B<=tp) (hr:∀ k,row=some k->B<=k):Below B w w2 :=
 ⟨h.1.trans hb.os,h.2.1.trans hb.tape,h.2.2.1.trans hb.output,Nat.le_trans hb.size h.2.2.2.1,fun k hk=>(h.2.2.2.2 k (by have:=hb.size;omega) (by omega) (by omega) (fun e=>by have:=hr k e;omega)).trans (hb.block k hk)⟩
theorem eq_r3 (w:World):(binOp .eql 44 (vG (numV 35000)) (.agg #[.int .i64 1,.int .i64 35000,.string ⟨#[]⟩,.bool false,.int .i64 0])).run Tryz.prog w=.ok (.bool true) w:=by rw[eqlV];rfl
theorem lives1 (w:World) (hP:zBs w) (hM:MaxL w):Rt 13 #[] w (.bool true):=by
 have he:=eq_r3
 go_enter Tryz.func13,Tryz.ntmps13
 go_wp2_with(first
  | (go_at_call 8;refine(table_New _).mono ?_;rintro e w1 ⟨rfl,hF,hb⟩;have hs:=zA2 hF.1;obtain⟨l,m,rfl⟩:=zA0 hb;have HF:=zh hF;clear hb hF)
  | (go_at_call 7;refine(eval_New _ 4 (by decide) (by decide) _).mono ?_;rintro e w1 ⟨rfl,hE,hb⟩;have hs2:=hb.size;simp only[zAU] at hE hb hs2;have HE:=zh hE;have HB:=zh hb;clear hE hb))
 have hW:=fun (X:World)=>eval_WorkX xs3 (w1.heap.size+1+1+1) 0 3 3 (w1.heap.size+1+1+1+1) (w.heap.size+l.length) 4 .nilIface True 4 X (w1.heap.size+1+1+1) (tb3 (w1.heap.size+1+1) w.heap.size (w1.heap.size+1)) (.slice none 0 0) 0 []
 have hw3:=work3 (w1.heap.size+1+1) w.heap.size (w1.heap.size+1)
 rw[hw3] at hW
 have hle:=hs2
 have hl1:w.heap.size<w.heap.size+l.length:=by simpa using hs
 have HBX:=zh (show Below w.heap.size w w1 from Below.trans (show Below w.heap.size w (more w l m) from bel) (HB.out.mono (by omega)))
 refine(hW _ ?_ check3 nm3 i643 ?_ (.inl ⟨rfl,rfl⟩) ?_ (by decide) (tbG3 _ _ _) (by decide) (by decide) (Nat.zero_le _) ⟨⟨[],rfl⟩,fun _=>rfl⟩ ?_ ?_ (by simp[Value.ownBlock]) ?_ (by simp[Value.ownBlock]) ?_ ?_ (by simp[Value.ownBlock]) ?_ ?_).mono ?_
 ·exact nodes3 (by simp)
 ·exact HE.out.below bel
 ·exact src3 (by simp)
 ·refine⟨?_,fun _ b off e=> ?_,fun _ b off e=> ?_⟩
  ·show w1.heap.size+1+1≠w.heap.size;omega
  ·cases e
   show w1.heap.size+1≠w.heap.size;omega
  ·cases e
 ·exact zCF.below (w:=w1) (zCF.below (.inr HF.out) (by rw[zAU];exact HB.out)) bel
 ·show w.heap.size+l.length≠w1.heap.size+1+1;omega
 ·show w.heap.size+l.length≠w.heap.size;omega
 ·show w1.heap.size+1+1+1≠w1.heap.size+1+1;omega
 ·show w1.heap.size+1+1+1≠w.heap.size;omega
 ·intro w' hk
  have hb:=hk.base (B:=w.heap.size) (Below.trans HBX.out (by exact bel)) (Nat.le_refl _) (by show w.heap.size<=w1.heap.size+1+1;omega) (Nat.le_refl _) (fun k e=>by cases e)
  exact⟨hP.below hb (Nat.le_refl _),hM.below hb⟩
 ·rintro e w2 ⟨rfl,hp2,-⟩
  have hb:=hp2.kept.base (B:=w.heap.size) (Below.trans HBX.out (by exact bel)) (Nat.le_refl _) (by show w.heap.size<=w1.heap.size+1+1;omega) (Nat.le_refl _) (fun k e=>by cases e)
  go_wp2
  go_ret
  exact⟨rfl,hb⟩
theorem eval_WorkNo (xs:List Nx) (A:Option Addr) (n c B0 pe pt:Nat) (w:World) (hr:Reads w B0 15 A n (zBi Nx.cells xs)) (hm:n<=1048576) (hck:zBD xs=false) (hnm:∀ x∈xs,x.name.size<=1000000000000) :
  Rt 11 #[.pointer (some ⟨pe,0,none⟩),.agg #[.slice A n c],.iface 31 (.pointer (some ⟨pt,0,none⟩))] w (vG (errG 8)):=by
 have HR:=zh hr
 have HX:=zh hnm
 have HCK:=zh hck
 clear hr hnm hck
 go_enter Tryz.func11,Tryz.ntmps11
 go_wp2_with(first
  | (go_at_call 20;refine(refs_CheckX xs _ n c B0 _ (HR.out.keeps kps) (by omega) HX.out).mono ?_;rw[HCK.out];rintro e w1 ⟨rfl,hb⟩;obtain⟨l1,m1,rfl⟩:=zA0 hb;clear hb)
  | (go_at_call 21;refine mB (zA3 8 _) ?_;intro l2 m2))
 exact bodyPost_ret (by simp[results,Tryz.results11,go_sem];try rfl) rfl ⟨rfl,bel⟩
theorem eval_WorkAll (xs:List Nx) (A:Option Addr) (n c B0 pe:Nat) (text:Int) (h:Value) (C:Prop) (K:Nat) (w:World) (B:Nat) (tb:Tb)
  (hr:Reads w B0 15 A n (zBi Nx.cells xs)) (hm:n<=1048576) (hnm:∀ x∈xs,x.name.size<=1000000000000) (h64:∀ x∈xs,Is64 x.v.num)
  (hE:AtB w pe (zAc ⟨tb.tp,0,none⟩ text h)) (hh:HostOf tb h) (hs:SrcG w B tb (.slice none 0 0) 0 []) (hT:TbG C K tb) (hK:K<=1048576) (htx:text<=K) (htold:tb.told.length<=1048576)
  (hB:FarT tb) (htab:zCF w tb.tp) (hpe:pe≠tb.pt) (hpe3:pe≠tb.tp) (hbn:0<n->∀ bn off,A=some ⟨bn,off,none⟩->bn≠tb.pt/\bn≠tb.tp)
  (hlib:∀ w',zBn tb.pt tb.tp none w w'->zBs w'/\MaxL w') :
  Calls Tryz.prog 11 #[.pointer (some ⟨pe,0,none⟩),.agg #[.slice A n c],.iface 31 (.pointer (some ⟨tb.pt,0,none⟩))] w fun e w'=>e=.returned (vG ((workG tb text xs).1))/\WorkPost w w' B tb (.slice none 0 0) 0 n [] (workG tb text xs).2/\GK C K (workG tb text xs).1:=by
 cases hck:zBD xs with
 | true =>
   have hlen:xs.length=n:=by
    have:=hr.1
    rw[zAD Nx.cells 15 Nx.cells_length] at this
    omega
   obtain⟨h1,-,-⟩:=check_dGo hck
   obtain⟨bn,off,rfl,_⟩:=hr.2 (by omega)
   have hb:=hbn (by omega) bn off rfl
   exact eval_WorkX xs bn off n c B0 pe text h C K w B tb (.slice none 0 0) 0 [] hr hck hnm h64 hE hh hs (by omega) hT hK htx htold ⟨⟨[],rfl⟩,fun _=>rfl⟩ hB htab (by simp[Value.ownBlock]) hpe (by simp[Value.ownBlock]) hpe3 hb.1 (by simp[Value.ownBlock]) hb.2 hlib
 | false =>
   have e:workG tb text xs=(errG 8,[]):=by unfold workG;rw[hck];rfl
   rw[e]
   refine(eval_WorkNo xs A n c B0 pe tb.pt w hr hm hck hnm).mono ?_
   rintro e w' ⟨rfl,hb⟩
   exact⟨rfl,⟨⟨.slice none 0 0,0,by simpa [zBi] using hs.below hb,by omega,.inl rfl,fun _=>rfl⟩,zBn.of_below hb,htab.below hb⟩,gk_err fun _=>by decide⟩
structure LawIn12 (w:World) (xs:List Nx) (Af:Option Addr) (nf:Nat) (es:List En) (Ac:Option Addr) (nc:Nat) (told:List Td) (ta:Option Addr) (tx:Int):Prop where
 hf:Reads w w.heap.size 15 Af nf (zBi Nx.cells xs)
 nf:nf<=1048576
 nm:∀ x∈xs,x.name.size<=1048576
 x64:∀ x∈xs,Is64 x.v.num
 he:Reads w w.heap.size 7 Ac nc (zBi En.cells es)
 nc:nc<=1048576
 e64:∀ e∈es,Is64 e.v.num
 esz:∀ e∈es,e.v.str.size<=1048576
 ht:Reads w w.heap.size 6 ta told.length (zBi Td.cells told)
 nt:told.length<=1048576
 oD:∀ e∈told,Is64 e.v.num
 tx:Is64 tx
 hp:zBs w
 hM:MaxL w
theorem put_mem {l:List En} {x e:En} (h:e∈putG l x):e∈l∨(e=x/\mayG x.v=true):=by
 have hk:e∈l.take (atE l x)++x::l.drop (atE l x)->e∈l∨e=x:=fun h=>by
  rcases List.mem_append.1 h with h|h
  ·exact .inl (List.mem_of_mem_take h)
  ·rcases List.mem_cons.1 h with h|h
   ·exact .inr h
   ·exact .inl (List.mem_of_mem_drop h)
 unfold putG at h
 by_cases h0:mayG x.v=false∨zCB x.row x.col=false
 ·rw[if_pos h0] at h;exact .inl h
 ·rw[if_neg h0] at h
  have hm:mayG x.v=true:=by
   cases hm:mayG x.v with
   | true=>rfl
   | false=>exact absurd (.inl hm) h0
  have h2:e∈l∨e=x:=by
   split at h
   ·split at h
    ·exact .inl h
    ·exact hk h
   ·exact hk h
  exact h2.imp id fun h=>⟨h,hm⟩
theorem tabE_mem (es:List En):∀ e∈tabE es,e∈es/\mayG e.v=true:=by
 have hg:∀ (es l:List En),∀ e∈es.foldl putG l,e∈l∨(e∈es/\mayG e.v=true):=by
  intro es
  induction es with
  | nil=>intro l e he;exact .inl he
  | cons x es ih =>
    intro l e he
    rcases ih (putG l x) e he with h|h
    ·rcases put_mem h with h|h
     ·exact .inl h
     ·exact .inr ⟨by rw[h.1];exact List.mem_cons_self,by rw[h.1];exact h.2⟩
    ·exact .inr ⟨List.mem_cons_of_mem _ h.1,h.2⟩
 intro e he
 rcases hg es [] e he with h|h
 ·cases h
 ·exact h
section
variable {w:World} {xs:List Nx} {Af Ac ta:Option Addr} {nf nc:Nat} {es:List En} {told:List Td} {tx:Int}
end
end Go.Proofs.YtppghgnhlgoagaaGreatDoor
