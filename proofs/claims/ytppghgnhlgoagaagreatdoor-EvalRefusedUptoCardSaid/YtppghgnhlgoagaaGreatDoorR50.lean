/-
  Parts of a proof.
-/
import Derived.Test.YtppghgnhlgoagaaGreatDoorR49
set_option linter.all false
set_option maxRecDepth 100000
set_option maxHeartbeats 4000000
namespace Go.Proofs.YtppghgnhlgoagaaGreatDoor
open Go Go.RowKit
open Go.Lib renaming hid->zh
theorem info_P5:(Tryz.prog.info? 103).map (fun i=>(i.zero,i.size,i.bytes))=some (some (.agg #[.int .i64 0,.int .i64 0,.bool false]),3,24):=by kernel_rfl
theorem pGo_cons (x:Nx) (xs:List Nx) (l:List P3):pGo (x::xs) l=match dstep l x with
 | none=>none
 | some l'=>pGo xs l':=rfl
theorem stk_formZ {w:World} {base e size n:Nat} {v:Value} {xs:List Value} (h:w.ownsRow base e size v n xs):(v=.slice none 0 0/\n=0)∨∃ g c,v=.slice (some ⟨g,0,none⟩) n c/\n<=c/\c<=maxLen/\(∀ j u,xs[j]? =some u->w.cell? ⟨g,j,none⟩=some u):=by
 rcases h.2 with h1|⟨g,cap,cur,e1,hg,hh,h1,h2,h3,h4⟩
 ·exact .inl h1
 ·subst e1
  refine .inr ⟨g,cap,rfl,h1,h2,fun j u hu=> ?_⟩
  have hj:j<xs.length:=(List.getElem?_eq_some_iff.1 hu).1
  rw[h.cellAt j (by rw[<- h.1];exact hj),hu]
theorem flat_oneP (l:List P3):∀ u∈flatC P3.cells l,u.oneCell'=true:=fun u hu=>by
 obtain⟨e,_,he⟩:=List.mem_flatMap.1 hu
 exact P3.cells_one e u he
set_option maxHeartbeats 16000000 in
theorem ref05_put (xs:List Nx) (A:Option Addr) (n c B:Nat) (w:World) (hr:Reads w B 15 A n (flatC Nx.cells xs)) (hm:n<=1024) (hnm:∀ x∈xs,x.name.size<=1000000000000) (h64:∀ x∈xs,Is64 x.v.num) (R:Option (List P3)) (hR:pGo xs []=R) :
  Calls Tryz.prog 27 #[.slice A n c] w fun e w'=>∃ v:Value,e=.returned (.tuple #[v,.bool R.isSome])/\Below w.heap.size w w'/\∀ l,R=some l->w'.ownsRow w.heap.size 103 3 v l.length (flatC P3.cells l):=by
 obtain⟨i0,hi,hz0,hz1,hz2⟩:=info_parts info_P5
 have hlen:xs.length=n:=by
  have:=hr.1
  rw[zAJ Nx.cells 15 Nx.cells_length] at this
  omega
 have HR:=zh hr
 have HX:=zh (And.intro hnm h64)
 have HL:=zh hlen
 have HP:=zh hR
 clear hr hnm h64 hlen hR
 go_enter Tryz.func27,Tryz.ntmps27
 go_wp2
 go_loopw [5,4] (fun t5 t4 wr=>∃ (j:Nat) (ps:List P3),j<=n/\t5=.int .i64 j/\zAE w wr 103 3 t4 ps.length (flatC P3.cells ps)/\Pbd j ps/\ps.length<=j/\RowKit.Hid (pGo (xs.drop j) ps=R)) (fun t _ _=>n-(intOf t).toNat)
 case atStart=>exact⟨0,[],Nat.zero_le _,rfl,⟨Below.refl _ _,World.ownsRow_nil _ _ _ _⟩,(fun p hp=>by cases hp),Nat.le_refl _,HP⟩
 case round =>
  obtain⟨j,ps,hj,rfl,hS,hP,hpl,hg⟩:=hrel
  have hB2:Below w.heap.size w wr:=hS.1
  have hsz:=hB2.size
  by_cases hlt:j<n
  ·obtain⟨x,hx⟩:∃ x,xs[j]? =some x:=⟨_,List.getElem?_eq_getElem (show j<xs.length by have:=HL.out;omega)⟩
   obtain⟨bk,off,rfl,_,hc⟩:=HR.out.2 (by omega)
   have hcell:∀ i u,x.cells[i]? =some u->wr.cell? ⟨bk,off+(j*15+i),none⟩=some u:=fun i u hu=>cell_below (hc _ u (zAC Nx.cells 15 Nx.cells_length xs j x hx i u hu)) hB2
   have hd:xs.drop j=x::xs.drop (j+1):=by
    obtain⟨hm,hv⟩:=List.getElem?_eq_some_iff.1 hx
    rw[List.drop_eq_getElem_cons hm,hv]
   have hG:=hg.out
   rw[hd,pGo_cons] at hG
   have hxm:=List.mem_of_getElem? hx
   have HND:=zh (fun w=>ref05_node x (HX.out.1 x hxm) (HX.out.2 x hxm) w)
   have HTK:=zh (fun w=>ref05_takes x w)
   have c0:=hcell 0 _ rfl
   have c1:=hcell 1 _ rfl
   have c2:=hcell 2 _ rfl
   have c3:=hcell 3 _ rfl
   have c4:=hcell 4 _ rfl
   have c5:=hcell 5 _ rfl
   have c6:=hcell 6 _ rfl
   have c7:=hcell 7 _ rfl
   have c8:=hcell 8 _ rfl
   have c9:=hcell 9 _ rfl
   have c10:=hcell 10 _ rfl
   have c11:=hcell 11 _ rfl
   have c12:=hcell 12 _ rfl
   have c13:=hcell 13 _ rfl
   have c14:=hcell 14 _ rfl
   simp only[<- Nat.add_assoc,Nat.add_zero] at c0 c1 c2 c3 c4 c5 c6 c7 c8 c9 c10 c11 c12 c13 c14
   have lc:=zA5 c0
   clear hcell hd hc hx
   by_cases hmay:ndMay x=true
   ·have htb:=take_bd hmay
    rw[hmay] at HND
    obtain⟨kn,hkn⟩:∃ kn:Nat,takeG x=(kn:Int):=⟨(takeG x).toNat,by omega⟩
    by_cases hks:ps.length<kn
    ·rw[dstep_take hmay (by omega)] at hG
     obtain rfl:R=none:=hG.symm
     obtain⟨A0,cc,rfl,-,-⟩:=zBP hS.2
     rw[hkn] at HTK
     have hgt:(ps.length:Int)<(kn:Int):=by omega
     clear hG hg hmay hS hP hkn htb
     go_wp2_with(first|(go_at_call 46;refine mB (HND.out _) ?_;intro l1 n1)|(go_at_call 47;refine mB (HTK.out _) ?_;intro l2 n2))
     go_returns
     exact⟨_,rfl,bel,fun l h=>by cases h⟩
    ·have hst:=dstep_part hmay (show takeG x<=(ps.length:Int) by omega) (fun p hp=>(hP p hp).1)
     obtain⟨m,hmk⟩:∃ m,ps.length=m+kn:=⟨ps.length-kn,by omega⟩
     rw[hkn,Int.toNat_natCast,hmk,Nat.add_sub_cancel] at hst
     have hPT:∀ (A':Option Addr) (c' B':Nat) (w':World),Reads w' B' 3 A' kn (flatC P3.cells (ps.drop m))->Rt 48 #[x.val,.slice A' kn c'] w' (.tuple #[.agg #[.int .i64 (partG x (ps.drop m)).1.d,.int .i64 (partG x (ps.drop m)).1.b,.bool (partG x (ps.drop m)).1.m],.bool (partG x (ps.drop m)).2]) :=
      fun A' c' B' w' h=>ref05_part hmay h (by omega) fun p hp=>by have:=hP p (List.mem_of_mem_drop hp);omega
     rw[hkn] at HTK
     obtain⟨q,ok,hqo⟩:∃ q ok,partG x (ps.drop m)=(q,ok):=⟨_,_,rfl⟩
     rw[hqo] at hst
     simp only[hqo] at hPT
     have hngt: ¬ ((m:Int)+(kn:Int)<(kn:Int)):=by omega
     have HMK:=zh hmk
     have hO:=hS.2
     rw[hmk] at hO
     have HS:=zh hS
     have hnb:∀ ps',dstep ps x=some ps'->Pbd (j+1) ps'/\ps'.length<=j+1:=fun ps' h=>dstep_bd h hP hpl
     have HNB:=zh hnb
     have hPTz:RowKit.Hid (kn=0->∀ (A':Option Addr) (c':Nat) (w':World),Rt 48 #[x.val,.slice A' 0 c'] w' (.tuple #[.agg #[.int .i64 q.d,.int .i64 q.b,.bool q.m],.bool ok])):=zh fun h0 A' c' w'=>by
      subst h0
      refine hPT A' c' 0 w' ⟨?_,fun h=>absurd h (by omega)⟩
      rw[zAJ P3.cells 3 P3.cells_length,List.length_drop]
      omega
     by_cases hk0:kn=0
     ·subst hk0
      have HPT:=zh (hPTz.out rfl)
      have hmj:m<=1024:=by omega
      have hmz: ¬ ((m:Int)<0):=by omega
      have hmz2: ¬ ((m:Int)<((0:Nat):Int)):=by omega
      have hw1:(0:Int)<=(m:Int):=by omega
      have hw3:IntKind.i64.wrap (m:Int)=m:=by rw[IntKind.wrap_i64];omega
      have hw0:IntKind.i64.wrap ((m:Int)-0)=m:=by rw[IntKind.wrap_i64];omega
      have hO':=hO
      rw[Nat.add_zero] at hO'
      rcases stk_formZ hO' with ⟨rfl,rfl⟩|⟨g,cc,rfl,hcm,hcap,hcl⟩
      ·as_aux_lemma =>
        have hz0':IntKind.i64.wrap (0-0)=0:=by rw[IntKind.wrap_i64];rfl
        have hz1':IntKind.i64.wrap 0=0:=by rw[IntKind.wrap_i64];rfl
        clear hPT hPTz hkn htb hP hnb hpl hS hmk hks hg hmay hqo hO hO'
        go_upto_region 9 with (first|(go_at_call 46;refine mB (HND.out _) ?_;intro l1 n1)|(go_at_call 47;refine mB (HTK.out _) ?_;intro l2 n2))
        go_cut [8,9] from 11 to 62 (fun s8 s9 wx=>∃ p:Nat,s8=.pointer (some ⟨p,0,none⟩)/\s9=.bool ok/\wx.cell? ⟨p,0,none⟩=some (.int .i64 q.d)/\wx.cell? ⟨p,1,none⟩=some (.int .i64 q.b)/\wx.cell? ⟨p,2,none⟩=some (.bool q.m)/\Below wr.heap.size wr wx)
        case first =>
         go_region_held3 (fun w'=>w'.cell? ⟨bk,off+j*15,none⟩=some (.int .i64 x.kind)/\w'.cell? ⟨bk,off+j*15+1,none⟩=some (.int .i64 x.v.tag)/\w'.cell? ⟨bk,off+j*15+2,none⟩=some (.int .i64 x.v.num)/\w'.cell? ⟨bk,off+j*15+3,none⟩=some (.string x.v.str)/\w'.cell? ⟨bk,off+j*15+4,none⟩=some (.bool x.v.is)/\w'.cell? ⟨bk,off+j*15+5,none⟩=some (.int .i64 x.v.code)/\w'.cell? ⟨bk,off+j*15+6,none⟩=some (.int .i64 x.row)/\w'.cell? ⟨bk,off+j*15+7,none⟩=some (.int .i64 x.col)/\w'.cell? ⟨bk,off+j*15+8,none⟩=some (.int .i64 x.top)/\w'.cell? ⟨bk,off+j*15+9,none⟩=some (.int .i64 x.left)/\w'.cell? ⟨bk,off+j*15+10,none⟩=some (.int .i64 x.bottom)/\w'.cell? ⟨bk,off+j*15+11,none⟩=some (.int .i64 x.right)/\w'.cell? ⟨bk,off+j*15+12,none⟩=some (.int .i64 x.op)/\w'.cell? ⟨bk,off+j*15+13,none⟩=some (.string x.name)/\w'.cell? ⟨bk,off+j*15+14,none⟩=some (.int .i64 x.args)) (((try dsimp only);(repeat' apply And.intro)<;>(first|assumption|exact cell_below (w:=wr) (by assumption) bel))) (first|(go_at_call 48;refine mB (HPT.out _ _ _) ?_;intro l3 n3))
         all_goals(go_wp2_with fail;go_meet;refine⟨_,rfl,rfl,?_,?_,?_,bel⟩<;>first|assumption|(go_simp;done)|(trace_state;fail))
        case rest =>
         obtain⟨p,rfl,rfl,p0,p1,p2,hBX⟩:=hcut
         have lp:=zA5 p0
         have hsx:=hBX.size
         clear c0 c1 c2 c3 c4 c5 c6 c7 c8 c9 c10 c11 c12 c13 c14
         cases ok
         ·have hRn:R=none:=by
           rw[show dstep ps x=none from hst] at hG
           exact hG.symm
          subst hRn
          go_wp2_with fail
          go_returns
          exact⟨_,rfl,hB2.trans (hBX.mono hsz),fun l h=>by cases h⟩
         ·have hst2:dstep ps x=some (ps.take 0++[q]):=hst
          rw[hst2] at hG
          have HG:=zh hG
          have hn2:=HNB.out _ hst2
          have HN2:=zh hn2.1
          have hl2:=hn2.2
          clear hG hst hst2 hn2
          go_wp2_with(first|(at_builtin;refine wpList_append_none rfl _ _ 99 rfl w.heap.size 103 i0 3 Tryz.underlying99 hi hz1 _ _ _ rfl (World.ownsRow_nil _ _ _ _) _ rfl ?_)|(at_builtin;refine wpList_append_own _ rfl _ _ 99 rfl w.heap.size 103 i0 _ 3 24 Tryz.underlying99 hi hz0 hz1 hz2 rfl (by decide) _ _ _ rfl (World.ownsRow_nil _ _ _ _) _ 1 1 (P3.cells q) rfl ?_ ?_ ?_ ?_ ?_ ?_ ?_))
          all_goals first
           | exact P3.cells_one q
           | rfl
           | (simp only[maxLen];omega)
           | omega
           | (simp;omega)
           | exact fun i u hu=>zAL (by simp) i u hu
           | exact fun i u hu=>hu
           | exact fun i u hu=>by simpa using hu
           | skip
          ·intro v2 w4 hown2 hgrow2 _
           have S2:=zAE.step (show zAE w _ 103 3 (.slice none 0 0) 0 [] from ⟨HS.out.1.trans (hBX.mono hsz),World.ownsRow_nil _ _ _ _⟩) bel hown2 hgrow2
           have HS2:=zh S2
           clear hown2 hgrow2 S2
           go_wp2
           have hps:ps=[]:=List.length_eq_zero_iff.1 (by have:=HMK.out;omega)
           have el:(ps.take 0++[q]).length=1:=by rw[hps];simp
           have e2:flatC P3.cells (ps.take 0++[q])=P3.cells q:=by rw[hps];simp[flatC]
           have h2:=HS2.out
           try simp only[Nat.zero_add,List.nil_append] at h2
           go_round
           case rel=>exact⟨j+1,ps.take 0++[q],by omega,by go_num,by rw[el,e2];exact h2,HN2.out,hl2,zh HG.out⟩
           case measure=>simp[intOf];omega
      ·have HCL:=zh hcl
       have hmcc:m<=cc:=hcm
       by_cases hcc:cc=m
       ·obtain rfl:m=cc:=hcc.symm
        as_aux_lemma =>
         clear hPT hPTz hkn htb hP hcl hnb hpl hS hmk hks hg hmay hqo hO hO'
         go_upto_region 9 with (first|(go_at_call 46;refine mB (HND.out _) ?_;intro l1 n1)|(go_at_call 47;refine mB (HTK.out _) ?_;intro l2 n2))
         go_cut [8,9] from 11 to 62 (fun s8 s9 wx=>∃ p:Nat,s8=.pointer (some ⟨p,0,none⟩)/\s9=.bool ok/\wx.cell? ⟨p,0,none⟩=some (.int .i64 q.d)/\wx.cell? ⟨p,1,none⟩=some (.int .i64 q.b)/\wx.cell? ⟨p,2,none⟩=some (.bool q.m)/\Below wr.heap.size wr wx)
         case first =>
          go_region_held3 (fun w'=>w'.cell? ⟨bk,off+j*15,none⟩=some (.int .i64 x.kind)/\w'.cell? ⟨bk,off+j*15+1,none⟩=some (.int .i64 x.v.tag)/\w'.cell? ⟨bk,off+j*15+2,none⟩=some (.int .i64 x.v.num)/\w'.cell? ⟨bk,off+j*15+3,none⟩=some (.string x.v.str)/\w'.cell? ⟨bk,off+j*15+4,none⟩=some (.bool x.v.is)/\w'.cell? ⟨bk,off+j*15+5,none⟩=some (.int .i64 x.v.code)/\w'.cell? ⟨bk,off+j*15+6,none⟩=some (.int .i64 x.row)/\w'.cell? ⟨bk,off+j*15+7,none⟩=some (.int .i64 x.col)/\w'.cell? ⟨bk,off+j*15+8,none⟩=some (.int .i64 x.top)/\w'.cell? ⟨bk,off+j*15+9,none⟩=some (.int .i64 x.left)/\w'.cell? ⟨bk,off+j*15+10,none⟩=some (.int .i64 x.bottom)/\w'.cell? ⟨bk,off+j*15+11,none⟩=some (.int .i64 x.right)/\w'.cell? ⟨bk,off+j*15+12,none⟩=some (.int .i64 x.op)/\w'.cell? ⟨bk,off+j*15+13,none⟩=some (.string x.name)/\w'.cell? ⟨bk,off+j*15+14,none⟩=some (.int .i64 x.args)) (((try dsimp only);(repeat' apply And.intro)<;>(first|assumption|exact cell_below (w:=wr) (by assumption) bel))) (first|(go_at_call 48;refine mB (HPT.out _ _ _) ?_;intro l3 n3))
          all_goals(go_wp2_with fail;go_meet;refine⟨_,rfl,rfl,?_,?_,?_,bel⟩<;>first|assumption|(go_simp;done)|(trace_state;fail))
         case rest =>
          obtain⟨p,rfl,rfl,p0,p1,p2,hBX⟩:=hcut
          have lp:=zA5 p0
          have hsx:=hBX.size
          clear c0 c1 c2 c3 c4 c5 c6 c7 c8 c9 c10 c11 c12 c13 c14
          cases ok
          ·have hRn:R=none:=by
            rw[show dstep ps x=none from hst] at hG
            exact hG.symm
           subst hRn
           go_wp2_with fail
           go_returns
           exact⟨_,rfl,hB2.trans (hBX.mono hsz),fun l h=>by cases h⟩
          ·have hst2:dstep ps x=some (ps.take m++[q]):=hst
           rw[hst2] at hG
           have HG:=zh hG
           have hn2:=HNB.out _ hst2
           have HN2:=zh hn2.1
           have hl2:=hn2.2
           clear hG hst hst2 hn2
           go_wp2_with(at_builtin;refine wpList_append_own _ rfl _ _ 99 rfl w.heap.size 103 i0 _ 3 24 Tryz.underlying99 hi hz0 hz1 hz2 rfl (by decide) _ _ _ rfl (World.ownsRow_nil _ _ _ _) ⟨g,0,none⟩ m m (flatC P3.cells (ps.take m)) rfl ?_ ?_ ?_ ?_ ?_ ?_ ?_)
           all_goals first
            | exact flat_oneP _
            | (rw[zAJ P3.cells 3 P3.cells_length,List.length_take,Nat.min_eq_left (by have:=HMK.out;omega)];done)
            | (simp only[maxLen];omega)
            | omega
            | (simp;omega)
            | (intro i u hu
               have h1:(flatC P3.cells ps)[i]? =some u:=by
                rw[show flatC P3.cells ps=flatC P3.cells (ps.take m)++flatC P3.cells (ps.drop m) from by rw[<- zAD,List.take_append_drop],List.getElem?_append_left (List.getElem?_eq_some_iff.1 hu).1]
                exact hu
               exact cell_below (HCL.out i u h1) (hBX.trans (by exact bel)))
            | skip
           all_goals
            intro v1 w3 hown1 hgrow1 _
            have S1:=zAE.step (show zAE w _ 103 3 (.slice none 0 0) 0 [] from ⟨HS.out.1.trans (hBX.mono hsz),World.ownsRow_nil _ _ _ _⟩) bel hown1 hgrow1
            have d0:w3.cell? ⟨p,0,none⟩=some (.int .i64 q.d):=hgrow1.cell (by go_simp) (by simp[Value.ownBlock])
            have d1:w3.cell? ⟨p,1,none⟩=some (.int .i64 q.b):=hgrow1.cell (by go_simp) (by simp[Value.ownBlock])
            have d2:w3.cell? ⟨p,2,none⟩=some (.bool q.m):=hgrow1.cell (by go_simp) (by simp[Value.ownBlock])
            have ld:=zA5 d0
            have HS1:=zh S1
            clear hown1 hgrow1 S1 p0 p1 p2
            go_wp2_with(at_builtin;refine wpList_append_own _ rfl _ _ 99 rfl w.heap.size 103 i0 _ 3 24 Tryz.underlying99 hi hz0 hz1 hz2 rfl (by decide) _ _ _ rfl (zAB HS1.out.2 bel) _ 1 1 (P3.cells q) rfl ?_ ?_ ?_ ?_ ?_ ?_ ?_)
            all_goals first
             | exact P3.cells_one q
             | rfl
             | (simp only[maxLen];omega)
             | omega
             | (have:=HS1.out.1.size;simp;omega)
             | exact fun i u hu=>zAL (by simp) i u hu
             | exact fun i u hu=>hu
             | exact fun i u hu=>by simpa using hu
             | skip
            all_goals
             intro v2 w4 hown2 hgrow2 _
             have S2:=zAE.step HS1.out bel hown2 hgrow2
             have HS2:=zh S2
             clear hown2 hgrow2 S2 d0 d1 d2
             go_wp2
             have el:(ps.take m++[q]).length=m+1:=by have:=HMK.out;simp;omega
             have e2:flatC P3.cells (ps.take m++[q])=flatC P3.cells (ps.take m)++P3.cells q:=by rw[zAD];simp[flatC]
             go_round
             case rel=>exact⟨j+1,ps.take m++[q],by omega,by go_num,by rw[el,e2];exact HS2.out,HN2.out,hl2,zh HG.out⟩
             case measure=>simp[intOf];omega
       ·have hnc: ¬ cc=m:=hcc
        have hmc:m<cc:=by omega
        as_aux_lemma =>
         clear hPT hPTz hkn htb hP hcl hnb hpl hS hmk hks hg hmay hqo hO hO' hcc
         go_upto_region 9 with (first|(go_at_call 46;refine mB (HND.out _) ?_;intro l1 n1)|(go_at_call 47;refine mB (HTK.out _) ?_;intro l2 n2))
         go_cut [8,9] from 11 to 62 (fun s8 s9 wx=>∃ p:Nat,s8=.pointer (some ⟨p,0,none⟩)/\s9=.bool ok/\wx.cell? ⟨p,0,none⟩=some (.int .i64 q.d)/\wx.cell? ⟨p,1,none⟩=some (.int .i64 q.b)/\wx.cell? ⟨p,2,none⟩=some (.bool q.m)/\Below wr.heap.size wr wx)
         case first =>
          go_region_held3 (fun w'=>w'.cell? ⟨bk,off+j*15,none⟩=some (.int .i64 x.kind)/\w'.cell? ⟨bk,off+j*15+1,none⟩=some (.int .i64 x.v.tag)/\w'.cell? ⟨bk,off+j*15+2,none⟩=some (.int .i64 x.v.num)/\w'.cell? ⟨bk,off+j*15+3,none⟩=some (.string x.v.str)/\w'.cell? ⟨bk,off+j*15+4,none⟩=some (.bool x.v.is)/\w'.cell? ⟨bk,off+j*15+5,none⟩=some (.int .i64 x.v.code)/\w'.cell? ⟨bk,off+j*15+6,none⟩=some (.int .i64 x.row)/\w'.cell? ⟨bk,off+j*15+7,none⟩=some (.int .i64 x.col)/\w'.cell? ⟨bk,off+j*15+8,none⟩=some (.int .i64 x.top)/\w'.cell? ⟨bk,off+j*15+9,none⟩=some (.int .i64 x.left)/\w'.cell? ⟨bk,off+j*15+10,none⟩=some (.int .i64 x.bottom)/\w'.cell? ⟨bk,off+j*15+11,none⟩=some (.int .i64 x.right)/\w'.cell? ⟨bk,off+j*15+12,none⟩=some (.int .i64 x.op)/\w'.cell? ⟨bk,off+j*15+13,none⟩=some (.string x.name)/\w'.cell? ⟨bk,off+j*15+14,none⟩=some (.int .i64 x.args)) (((try dsimp only);(repeat' apply And.intro)<;>(first|assumption|exact cell_below (w:=wr) (by assumption) bel))) (first|(go_at_call 48;refine mB (HPT.out _ _ _) ?_;intro l3 n3))
          all_goals(go_wp2_with fail;go_meet;refine⟨_,rfl,rfl,?_,?_,?_,bel⟩<;>first|assumption|(go_simp;done)|(trace_state;fail))
         case rest =>
          obtain⟨p,rfl,rfl,p0,p1,p2,hBX⟩:=hcut
          have lp:=zA5 p0
          have hsx:=hBX.size
          clear c0 c1 c2 c3 c4 c5 c6 c7 c8 c9 c10 c11 c12 c13 c14
          cases ok
          ·have hRn:R=none:=by
            rw[show dstep ps x=none from hst] at hG
            exact hG.symm
           subst hRn
           go_wp2_with fail
           go_returns
           exact⟨_,rfl,hB2.trans (hBX.mono hsz),fun l h=>by cases h⟩
          ·have hst2:dstep ps x=some (ps.take m++[q]):=hst
           rw[hst2] at hG
           have HG:=zh hG
           have hn2:=HNB.out _ hst2
           have HN2:=zh hn2.1
           have hl2:=hn2.2
           clear hG hst hst2 hn2
           go_wp2_with(at_builtin;refine wpList_append_own _ rfl _ _ 99 rfl w.heap.size 103 i0 _ 3 24 Tryz.underlying99 hi hz0 hz1 hz2 rfl (by decide) _ _ _ rfl (World.ownsRow_nil _ _ _ _) ⟨g,0,none⟩ m cc (flatC P3.cells (ps.take m)) rfl ?_ ?_ ?_ ?_ ?_ ?_ ?_)
           all_goals first
            | exact flat_oneP _
            | (rw[zAJ P3.cells 3 P3.cells_length,List.length_take,Nat.min_eq_left (by have:=HMK.out;omega)];done)
            | (simp only[maxLen];omega)
            | omega
            | (simp;omega)
            | (intro i u hu
               have h1:(flatC P3.cells ps)[i]? =some u:=by
                rw[show flatC P3.cells ps=flatC P3.cells (ps.take m)++flatC P3.cells (ps.drop m) from by rw[<- zAD,List.take_append_drop],List.getElem?_append_left (List.getElem?_eq_some_iff.1 hu).1]
                exact hu
               exact cell_below (HCL.out i u h1) (hBX.trans (by exact bel)))
            | skip
           all_goals
            intro v1 w3 hown1 hgrow1 _
            have S1:=zAE.step (show zAE w _ 103 3 (.slice none 0 0) 0 [] from ⟨HS.out.1.trans (hBX.mono hsz),World.ownsRow_nil _ _ _ _⟩) bel hown1 hgrow1
            have d0:w3.cell? ⟨p,0,none⟩=some (.int .i64 q.d):=hgrow1.cell (by go_simp) (by simp[Value.ownBlock])
            have d1:w3.cell? ⟨p,1,none⟩=some (.int .i64 q.b):=hgrow1.cell (by go_simp) (by simp[Value.ownBlock])
            have d2:w3.cell? ⟨p,2,none⟩=some (.bool q.m):=hgrow1.cell (by go_simp) (by simp[Value.ownBlock])
            have ld:=zA5 d0
            have HS1:=zh S1
            clear hown1 hgrow1 S1 p0 p1 p2
            go_wp2_with(at_builtin;refine wpList_append_own _ rfl _ _ 99 rfl w.heap.size 103 i0 _ 3 24 Tryz.underlying99 hi hz0 hz1 hz2 rfl (by decide) _ _ _ rfl (zAB HS1.out.2 bel) _ 1 1 (P3.cells q) rfl ?_ ?_ ?_ ?_ ?_ ?_ ?_)
            all_goals first
             | exact P3.cells_one q
             | rfl
             | (simp only[maxLen];omega)
             | omega
             | (have:=HS1.out.1.size;simp;omega)
             | exact fun i u hu=>zAL (by simp) i u hu
             | exact fun i u hu=>hu
             | exact fun i u hu=>by simpa using hu
             | skip
            all_goals
             intro v2 w4 hown2 hgrow2 _
             have S2:=zAE.step HS1.out bel hown2 hgrow2
             have HS2:=zh S2
             clear hown2 hgrow2 S2 d0 d1 d2
             go_wp2
             have el:(ps.take m++[q]).length=m+1:=by have:=HMK.out;simp;omega
             have e2:flatC P3.cells (ps.take m++[q])=flatC P3.cells (ps.take m)++P3.cells q:=by rw[zAD];simp[flatC]
             go_round
             case rel=>exact⟨j+1,ps.take m++[q],by omega,by go_num,by rw[el,e2];exact HS2.out,HN2.out,hl2,zh HG.out⟩
             case measure=>simp[intOf];omega
     ·obtain⟨g,cc,rfl,hcap,hcm,hbg,hgl,hcl,hfz⟩:=zAx hO (by omega)
      have hmc:m<cc:=by omega
      have hmcc:m<=cc:=by omega
      have hnc: ¬ cc=m:=by omega
      have hmj:m<=1024:=by omega
      have HPT:=zh (show ∀ (w':World) (D O L C:Nat) (X:Value),D=g->O=m*3->L=kn->C=cc-m->X=x.val->Below wr.heap.size wr w'->Rt 48 #[X,.slice (some ⟨D,O,none⟩) L C] w' (.tuple #[.agg #[.int .i64 q.d,.int .i64 q.b,.bool q.m],.bool ok]) from fun w' D O L C X hD hO hL hC hX hb=>by
       rw[hD,hO,hL,hC,hX]
       refine hPT _ _ w'.heap.size w' ⟨?_,fun _=>⟨g,m*3,rfl,Nat.lt_of_lt_of_le hgl hb.size,fun i u hu=> ?_⟩⟩
       ·rw[zAJ P3.cells 3 P3.cells_length,List.length_drop]
        omega
       ·refine cell_below (hcl (m*3+i) u ?_) hb
        have e1:flatC P3.cells ps=flatC P3.cells (ps.take m)++flatC P3.cells (ps.drop m):=by rw[<- zAD,List.take_append_drop]
        rw[e1,List.getElem?_append_right (by rw[zAJ P3.cells 3 P3.cells_length,List.length_take];omega),zAJ P3.cells 3 P3.cells_length,List.length_take,Nat.min_eq_left (by omega),Nat.add_sub_cancel_left]
        exact hu)
      have HCL:=zh hcl
      have hw0:IntKind.i64.wrap ((m:Int)+(kn:Int)-(kn:Int))=(m:Int):=by rw[IntKind.wrap_i64];omega
      have hw1:(0:Int)<=(m:Int):=by omega
      have hw3:IntKind.i64.wrap (m:Int)=m:=by rw[IntKind.wrap_i64];omega
      have hw2:(m:Int)<=(m:Int)+(kn:Int):=by omega
      as_aux_lemma =>
       clear hPT hPTz hkn htb hP hcl hfz hnb hk0 hpl hS hmk hks hg hmay hqo hO
       go_upto_region 9 with (first|(go_at_call 46;refine mB (HND.out _) ?_;intro l1 n1)|(go_at_call 47;refine mB (HTK.out _) ?_;intro l2 n2))
       go_cut [8,9] from 11 to 62 (fun s8 s9 wx=>∃ p:Nat,s8=.pointer (some ⟨p,0,none⟩)/\s9=.bool ok/\wx.cell? ⟨p,0,none⟩=some (.int .i64 q.d)/\wx.cell? ⟨p,1,none⟩=some (.int .i64 q.b)/\wx.cell? ⟨p,2,none⟩=some (.bool q.m)/\Below wr.heap.size wr wx)
       case first =>
        go_region_held3 (fun w'=>w'.cell? ⟨bk,off+j*15,none⟩=some (.int .i64 x.kind)/\w'.cell? ⟨bk,off+j*15+1,none⟩=some (.int .i64 x.v.tag)/\w'.cell? ⟨bk,off+j*15+2,none⟩=some (.int .i64 x.v.num)/\w'.cell? ⟨bk,off+j*15+3,none⟩=some (.string x.v.str)/\w'.cell? ⟨bk,off+j*15+4,none⟩=some (.bool x.v.is)/\w'.cell? ⟨bk,off+j*15+5,none⟩=some (.int .i64 x.v.code)/\w'.cell? ⟨bk,off+j*15+6,none⟩=some (.int .i64 x.row)/\w'.cell? ⟨bk,off+j*15+7,none⟩=some (.int .i64 x.col)/\w'.cell? ⟨bk,off+j*15+8,none⟩=some (.int .i64 x.top)/\w'.cell? ⟨bk,off+j*15+9,none⟩=some (.int .i64 x.left)/\w'.cell? ⟨bk,off+j*15+10,none⟩=some (.int .i64 x.bottom)/\w'.cell? ⟨bk,off+j*15+11,none⟩=some (.int .i64 x.right)/\w'.cell? ⟨bk,off+j*15+12,none⟩=some (.int .i64 x.op)/\w'.cell? ⟨bk,off+j*15+13,none⟩=some (.string x.name)/\w'.cell? ⟨bk,off+j*15+14,none⟩=some (.int .i64 x.args)) (((try dsimp only);(repeat' apply And.intro)<;>(first|assumption|exact cell_below (w:=wr) (by assumption) bel))) (first|(go_at_call 48;refine mB (HPT.out _ _ _ _ _ _ (by first|rfl|omega) (by first|rfl|omega) (by first|rfl|omega) (by first|rfl|omega) rfl bel) ?_;intro l3 n3))
        all_goals(go_wp2_with fail;go_meet;refine⟨_,rfl,rfl,?_,?_,?_,bel⟩<;>first|assumption|(go_simp;done)|(trace_state;fail))
       case rest =>
        obtain⟨p,rfl,rfl,p0,p1,p2,hBX⟩:=hcut
        have lp:=zA5 p0
        have hsx:=hBX.size
        clear c0 c1 c2 c3 c4 c5 c6 c7 c8 c9 c10 c11 c12 c13 c14
        cases ok
        ·have hRn:R=none:=by
          rw[show dstep ps x=none from hst] at hG
          exact hG.symm
         subst hRn
         go_wp2_with fail
         go_returns
         exact⟨_,rfl,hB2.trans (hBX.mono hsz),fun l h=>by cases h⟩
        ·have hst2:dstep ps x=some (ps.take m++[q]):=hst
         rw[hst2] at hG
         have HG:=zh hG
         have hn2:=HNB.out _ hst2
         have HN2:=zh hn2.1
         have hl2:=hn2.2
         clear hG hst hst2 hn2
         go_wp2_with(at_builtin;refine wpList_append_own _ rfl _ _ 99 rfl w.heap.size 103 i0 _ 3 24 Tryz.underlying99 hi hz0 hz1 hz2 rfl (by decide) _ _ _ rfl (World.ownsRow_nil _ _ _ _) ⟨g,0,none⟩ m cc (flatC P3.cells (ps.take m)) rfl ?_ ?_ ?_ ?_ ?_ ?_ ?_)
         all_goals first
          | exact flat_oneP _
          | (rw[zAJ P3.cells 3 P3.cells_length,List.length_take,Nat.min_eq_left (by have:=HMK.out;omega)];done)
          | (simp only[maxLen];omega)
          | omega
          | (simp;omega)
          | (intro i u hu
             have h1:(flatC P3.cells ps)[i]? =some u:=by
              rw[show flatC P3.cells ps=flatC P3.cells (ps.take m)++flatC P3.cells (ps.drop m) from by rw[<- zAD,List.take_append_drop],List.getElem?_append_left (List.getElem?_eq_some_iff.1 hu).1]
              exact hu
             exact cell_below (HCL.out i u h1) (hBX.trans (by exact bel)))
          | skip
         all_goals
          intro v1 w3 hown1 hgrow1 _
          have S1:=zAE.step (show zAE w _ 103 3 (.slice none 0 0) 0 [] from ⟨HS.out.1.trans (hBX.mono hsz),World.ownsRow_nil _ _ _ _⟩) bel hown1 hgrow1
          have d0:w3.cell? ⟨p,0,none⟩=some (.int .i64 q.d):=hgrow1.cell (by go_simp) (by simp[Value.ownBlock])
          have d1:w3.cell? ⟨p,1,none⟩=some (.int .i64 q.b):=hgrow1.cell (by go_simp) (by simp[Value.ownBlock])
          have d2:w3.cell? ⟨p,2,none⟩=some (.bool q.m):=hgrow1.cell (by go_simp) (by simp[Value.ownBlock])
          have ld:=zA5 d0
          have HS1:=zh S1
          clear hown1 hgrow1 S1 p0 p1 p2
          go_wp2_with(at_builtin;refine wpList_append_own _ rfl _ _ 99 rfl w.heap.size 103 i0 _ 3 24 Tryz.underlying99 hi hz0 hz1 hz2 rfl (by decide) _ _ _ rfl (zAB HS1.out.2 bel) _ 1 1 (P3.cells q) rfl ?_ ?_ ?_ ?_ ?_ ?_ ?_)
          all_goals first
           | exact P3.cells_one q
           | rfl
           | (simp only[maxLen];omega)
           | omega
           | (have:=HS1.out.1.size;simp;omega)
           | exact fun i u hu=>zAL (by simp) i u hu
           | exact fun i u hu=>hu
           | exact fun i u hu=>by simpa using hu
           | skip
          all_goals
           intro v2 w4 hown2 hgrow2 _
           have S2:=zAE.step HS1.out bel hown2 hgrow2
           have HS2:=zh S2
           clear hown2 hgrow2 S2 d0 d1 d2
           go_wp2
           have el:(ps.take m++[q]).length=m+1:=by have:=HMK.out;simp;omega
           have e2:flatC P3.cells (ps.take m++[q])=flatC P3.cells (ps.take m)++P3.cells q:=by rw[zAD];simp[flatC]
           go_round
           case rel=>exact⟨j+1,ps.take m++[q],by omega,by go_num,by rw[el,e2];exact HS2.out,HN2.out,hl2,zh HG.out⟩
           case measure=>simp[intOf];omega
   ·rw[dstep_no (by simpa using hmay)] at hG
    obtain rfl:R=none:=hG.symm
    have hmf:ndMay x=false:=by simpa using hmay
    rw[hmf] at HND
    obtain⟨tk,htk⟩:∃ tk,takeG x=tk:=⟨_,rfl⟩
    rw[htk] at HTK
    obtain⟨A0,cc,rfl,-,-⟩:=zBP hS.2
    clear hG hg hmay hmf htk hS hP
    go_wp2_with(first|(go_at_call 46;refine mB (HND.out _) ?_;intro l1 n1)|(go_at_call 47;refine mB (HTK.out _) ?_;intro l2 n2))
    go_returns
    exact⟨_,rfl,bel,fun l h=>by cases h⟩
  ·obtain rfl:j=n:=by omega
   have hG:=hg.out
   rw[List.drop_eq_nil_of_le (by rw[HL.out];exact Nat.le_refl _)] at hG
   obtain rfl:R=some ps:=hG.symm
   have HS:=zh hS
   clear hG hg hS hP
   go_wp2
   go_returns
   exact⟨_,rfl,HS.out.1,fun l h=>by cases h;exact HS.out.2⟩
theorem ref05_Check (xs:List Nx) (A:Option Addr) (n c B:Nat) (w:World) (hr:Reads w B 15 A n (flatC Nx.cells xs)) (hm:n<=1000000000000) (hnm:∀ x∈xs,x.name.size<=1000000000000) (h64:∀ x∈xs,Is64 x.v.num) :
  Rt 12 #[.agg #[.slice A n c]] w (.int .i64 (errI (zBF xs))):=by
 have hlen:xs.length=n:=by
  have:=hr.1
  rw[zAJ Nx.cells 15 Nx.cells_length] at this
  omega
 by_cases h0:n<1
 ·obtain rfl:n=0:=by omega
  have e:zBF xs=false:=by unfold zBF depthG;rw[if_pos (by omega)];rfl
  rw[e]
  unfold errI
  clear e hr hnm h64 hlen h0
  go_enter Tryz.func12,Tryz.ntmps12
  go_wp2
  go_ret
  exact⟨rfl,bel⟩
 have i2: ¬ (n:Int)<1:=by omega
 by_cases h1:1024<n
 ·have e:zBF xs=false:=by unfold zBF depthG;rw[if_pos (by omega)];rfl
  have i1:(1024:Int)<(n:Int):=by omega
  rw[e]
  unfold errI
  clear e hr hnm h64 hlen h0 h1
  go_enter Tryz.func12,Tryz.ntmps12
  go_wp2
  go_ret
  exact⟨rfl,bel⟩
 have i1: ¬ (1024:Int)<(n:Int):=by omega
 have e:zBF xs=((dGo xs []).2&&decide ((dGo xs []).1<=32)):=by unfold zBF depthG;rw[if_neg (by omega)]
 rw[e,dGo_pGo]
 obtain⟨R,hR⟩:∃ R,pGo xs []=R:=⟨_,rfl⟩
 have HP:=zh (fun (w':World) (h:Reads w' B 15 A n (flatC Nx.cells xs))=>ref05_put xs A n c B w' h (by omega) hnm h64 R hR)
 rw[hR]
 have HR:=zh hr
 clear e hr hnm h64 hlen h0 h1 hR
 rcases R with _|l
 ·rw[show errI _=20 from rfl]
  go_enter Tryz.func12,Tryz.ntmps12
  go_wp2_with(go_at_call 27;refine(HP.out _ (HR.out.keeps kps)).mono ?_;rintro e w1 ⟨v,rfl,hb,-⟩;obtain⟨l1,m1,rfl⟩:=zA0 hb;clear hb)
  go_ret
  exact⟨rfl,bel⟩
 rcases l with _|⟨p,_|⟨q,r⟩⟩
 ·rw[show errI _=20 from rfl]
  go_enter Tryz.func12,Tryz.ntmps12
  go_wp2_with(go_at_call 27;refine(HP.out _ (HR.out.keeps kps)).mono ?_;rintro e w1 ⟨v,rfl,hb,hv⟩;obtain⟨A1,c1,rfl,-,-⟩:=zBP (hv _ rfl);obtain⟨l1,m1,rfl⟩:=zA0 hb;clear hb hv)
  go_ret
  exact⟨rfl,bel⟩
 ·obtain⟨pd,pb,pm⟩:=p
  have HQ:RowKit.Hid (∀ (w':World),Reads w' B 15 A n (flatC Nx.cells xs)->Calls Tryz.prog 27 #[.slice A n c] w' fun e w''=>∃ g cc,e=.returned (.tuple #[.slice (some ⟨g,0,none⟩) (1:Nat) cc,.bool true])/\Below w'.heap.size w' w''/\w''.cell? ⟨g,0,none⟩=some (.int .i64 pd)/\w''.cell? ⟨g,1,none⟩=some (.int .i64 pb)/\w''.cell? ⟨g,2,none⟩=some (.bool pm)):=zh fun w' h=>(HP.out w' h).mono fun e w1 hh=>by
   obtain⟨v,rfl,hb,hv⟩:=hh
   have ho:=hv _ rfl
   obtain⟨g,cc,rfl,hcap,hcm,hbg,hgl,hcl,hfz⟩:=zAx ho (by simp)
   exact⟨g,cc,rfl,hb,hcl 0 _ rfl,hcl 1 _ rfl,hcl 2 _ rfl⟩
  clear HP
  by_cases h:pd<=32
  ·have h2: ¬ 32<pd:=by omega
   cases pm
   ·rw[show errI _=0 from by unfold errI;simp[h]]
    clear h
    go_enter Tryz.func12,Tryz.ntmps12
    go_wp2_with(go_at_call 27;refine(HQ.out _ (HR.out.keeps kps)).mono ?_;rintro e w1 ⟨g,cc,rfl,hb,d0,d1,d2⟩;have ld:=zA5 d0;obtain⟨l1,m1,rfl⟩:=zA0 hb;clear hb)
    go_ret
    exact⟨rfl,bel⟩
   ·rw[show errI _=20 from rfl]
    clear h
    go_enter Tryz.func12,Tryz.ntmps12
    go_wp2_with(go_at_call 27;refine(HQ.out _ (HR.out.keeps kps)).mono ?_;rintro e w1 ⟨g,cc,rfl,hb,d0,d1,d2⟩;have ld:=zA5 d0;obtain⟨l1,m1,rfl⟩:=zA0 hb;clear hb)
    go_ret
    exact⟨rfl,bel⟩
  ·have h2:32<pd:=by omega
   cases pm
   all_goals
    rw[show errI _=20 from by unfold errI;simp[h]]
    clear h
    go_enter Tryz.func12,Tryz.ntmps12
    go_wp2_with(go_at_call 27;refine(HQ.out _ (HR.out.keeps kps)).mono ?_;rintro e w1 ⟨g,cc,rfl,hb,d0,d1,d2⟩;have ld:=zA5 d0;obtain⟨l1,m1,rfl⟩:=zA0 hb;clear hb)
    go_ret
    exact⟨rfl,bel⟩
 ·rw[show errI _=20 from rfl]
  have hne: ¬ ((((⟨p.d,p.b,p.m⟩:P3)::q::r).length:Int)=1):=by simp only[List.length_cons];omega
  have hne2: ¬ (((r.length+1+1:Nat):Int)=1):=by omega
  go_enter Tryz.func12,Tryz.ntmps12
  go_wp2_with(go_at_call 27;refine(HP.out _ (HR.out.keeps kps)).mono ?_;rintro e w1 ⟨v,rfl,hb,hv⟩;obtain⟨A1,c1,rfl,-,-⟩:=zBP (hv _ rfl);obtain⟨l1,m1,rfl⟩:=zA0 hb;clear hb hv)
  go_ret
  exact⟨rfl,bel⟩
end Go.Proofs.YtppghgnhlgoagaaGreatDoor
