/- Parts. -/
import Derived.Test.YtppghgnhlgoagaaGreatDoorG19
import Derived.Test.YtppghgnhlgoagaaGreatDoorG20
import Derived.Shelf.Spec.BitsCarry
set_option linter.all false
set_option maxRecDepth 100000
set_option maxHeartbeats 4000000
namespace Go.Proofs.YtppghgnhlgoagaaGreatDoor
open Go Go.RowKit
open Go.Lib renaming hid->zh
def zC3 (p:Arg×List En):List V:=(if p.1.many then [] else [p.1.val])++p.2.map En.v
def zA4 (l:List (Arg×List En)):List V:=l.flatMap zC3
theorem itemsG_snoc {l:List (Arg×List En)} {j:Nat} {p:Arg×List En} (h:l[j]? =some p):zA4 (l.take (j+1))=zA4 (l.take j)++zC3 p:=by
 rw[zAn h]
 simp[zA4]
theorem itemsG_le {l:List (Arg×List En)} {j:Nat} {p:Arg×List En} (h:l[j]? =some p):(zA4 (l.take j)).length+(zC3 p).length<=(zA4 l).length:=by
 rw[<- List.length_append,<-itemsG_snoc h]
 conv=>rhs;rw[<- List.take_append_drop (j+1) l]
 unfold zA4
 rw[List.flatMap_append,List.length_append]
 omega
theorem aggs_items (pl:List (Arg×List En)) (A:Option Addr) (n c B:Nat) (w:World) (hr:Reads w B 11 A n (zBC (pl.map Prod.fst))) (hE:∀ p∈pl,zAt w p.1 p.2) (hT:(zA4 pl).length<=1000000000000) (hm:n<=1000000000000) (hnn:∀ p∈pl,p.1.n<=1000000000000) :
  Calls Tryz.prog 266 #[.slice A n c] w fun e w'=>∃ v,e=.returned v/\w'.ownsRow w.heap.size 44 5 v (zA4 pl).length (flat (zA4 pl))/\Below w.heap.size w w':=by
 have hlen:pl.length=n:=by
  have:=hr.1
  rw[zAo,List.length_map] at this
  omega
 have HR:=zh hr
 have HE:=zh hE
 have HT:=zh hT
 have HLEN:=zh hlen
 have HNN:=zh hnn
 clear hr hE hT hnn
 obtain⟨i0,hi,hz0,hz1,hz2⟩:=info_parts info_V
 go_enter Tryz.func266,Tryz.ntmps266
 go_wp2
 go_loopw [10,3] (fun t v wr=>∃ j:Nat,j<=n/\t=.int .i64 j/\zAW w wr 44 5 v (zA4 (pl.take j)).length (flat (zA4 (pl.take j)))) (fun t _ _=>n-(intOf t).toNat)
 case atStart=>exact⟨0,Nat.zero_le _,rfl,Below.refl _ _,World.ownsRow_nil _ _ _ _⟩
 case round =>
  obtain⟨j,hj,rfl,hG⟩:=hrel
  by_cases hlt:j<n
  ·obtain⟨p,hp⟩:∃ p,pl[j]? =some p:=⟨_,List.getElem?_eq_getElem (show j<pl.length by omega)⟩
   obtain⟨bk,off,rfl,_,hc⟩:=HR.out.2 (by omega)
   have hws:=hG.1.size
   have hcell:∀ i u,p.1.cells[i]? =some u->wr.cell? ⟨bk,off+(j*11+i),none⟩=some u:=fun i u hu=>by
    have h1:=hc _ u (zAb (pl.map Prod.fst) j p.1 (by rw[List.getElem?_map,hp];rfl) i u hu)
    exact(hG.1.cell (p:=⟨bk,_,none⟩) (World.block_lt_of_cell? w _ h1)).trans h1
   have c0:=hcell 0 _ rfl
   have c1:=hcell 1 _ rfl
   have c2:=hcell 2 _ rfl
   have c3:=hcell 3 _ rfl
   have c4:=hcell 4 _ rfl
   have c5:=hcell 5 _ rfl
   have c6:=hcell 6 _ rfl
   have c7:=hcell 7 _ rfl
   have c8:=hcell 8 _ rfl
   have c9:=hcell 9 _ rfl
   have c10:=hcell 10 _ rfl
   simp only[<- Nat.add_assoc,Nat.add_zero] at c0 c1 c2 c3 c4 c5 c6 c7 c8 c9 c10
   have hbr:=cltK c0
   have hle:=itemsG_le hp
   have hsn:=itemsG_snoc hp
   have hmn:=HNN.out p (List.mem_of_getElem? hp)
   have HEP:=zh (HE.out p (List.mem_of_getElem? hp))
   have HG:=zh hG
   clear hcell hc hp hG
   obtain⟨WO,hWO⟩:∃ WO,WO=wr:=⟨_,rfl⟩
   subst hWO
   obtain⟨⟨many,val,top,left,bottom,right,ents,m,cc⟩,es⟩:=p
   simp only at c0 c1 c2 c3 c4 c5 c6 c7 c8 c9 c10 hmn
   have hel0:es.length=m:=HEP.out.1
   have HER:=zh (show Reads w w.heap.size 7 ents m (zBi En.cells es) from HEP.out.2)
   clear HEP
   obtain⟨r,hr⟩:∃ r,r=zA4 (pl.take j):=⟨_,rfl⟩
   rw[<- hr] at hle hsn HG
   clear hr
   cases many
   ·have hel:(zC3 (⟨false,val,top,left,bottom,right,ents,m,cc⟩,es)).length=1+m:=by simp[zC3];omega
    have hrl:r.length+1+m<=1000000000000:=by have:=HT.out;omega
    go_wp2_with(at_builtin;refine wpList_append_own _ rfl _ _ 194 rfl w.heap.size 44 i0 _ 5 48 Tryz.underlying194 hi hz0 hz1 hz2 rfl (by decide) _ _ _ rfl (own_below HG.out.2 bel) _ 1 1 val.cells rfl rfl ?_ ?_ ?_ ?_ ?_ ?_)
    ·first|exact fun i u hu=>zAe (by simp) i u hu|exact fun i u hu=>hu
    ·exact cells_one _
    ·simp only[maxLen];omega
    ·omega
    ·have h1:=HG.out.1.size
     simp at h1 ⊢
     omega
    ·intro v' w3 hown' hgrow _
     have R:=zAW.step HG.out bel (show w3.ownsRow w.heap.size 44 5 v' (r.length+1) (flat (r)++val.cells) from by simpa using hown') hgrow
     rw[show flat (r)++val.cells=flat (r++[val]) by rw[zC7];simp[flat],show r.length+1=(r++[val]).length by simp] at R
     obtain⟨q,hq⟩:∃ q,q=r++[val]:=⟨_,rfl⟩
     rw[<- hq] at R
     have HG2:=zh R
     have HQ:=zh (show q++es.map En.v=zA4 (pl.take (j+1)) by rw[hsn,hq];simp[zC3])
     have HQL:=zh (show q.length+m<=1000000000000 by rw[hq];simp;omega)
     have e10:w3.cell? ⟨WO.heap.size,10,none⟩=some (.slice ents m cc):=(World.cell?_of_block (a:=⟨WO.heap.size,10,none⟩) (hgrow.block _ (by simp;omega) (fun e=>Nat.lt_irrefl _ (HG.out.2.lt _ e.symm).2))).trans (by go_simp)
     have l10:=World.block_lt_of_cell? w3 _ e10
     clear hown' hgrow R hq HG hsn hle hel hrl c0 c1 c2 c3 c4 c5 c6 c7 c8 c9 c10
     go_wp2
     go_loopw [25,3] (fun t v wr=>∃ k:Nat,∃ z:List V,k<=m/\t=.int .i64 k/\z=q++(es.take k).map En.v/\zAW w wr 44 5 v z.length (flat z)) (fun t _ _=>m-(intOf t).toNat)
     case atStart=>exact⟨0,q,Nat.zero_le _,rfl,by simp,HG2.out⟩
     case round =>
      obtain⟨k,z,hk,rfl,hz,hG3⟩:=hrel
      have HG3:=zh hG3
      have HZ:=zh hz
      clear hG3 hz
      by_cases hkl:k<m
      ·obtain⟨x,hx⟩:∃ x,es[k]? =some x:=⟨_,List.getElem?_eq_getElem (show k<es.length by omega)⟩
       obtain⟨bk,off,rfl,_,hc⟩:=HER.out.2 (by omega)
       have hws:=HG3.out.1.size
       have hcell:∀ i u,x.cells[i]? =some u->wr.cell? ⟨bk,off+(k*7+i),none⟩=some u:=fun i u hu=>by
        have h1:=hc _ u (zA9 En.cells 7 (fun _=>rfl) es k x hx i u hu)
        exact(HG3.out.1.cell (p:=⟨bk,_,none⟩) (World.block_lt_of_cell? w _ h1)).trans h1
       have e0:=hcell 0 _ rfl
       have e1:=hcell 1 _ rfl
       have e2:=hcell 2 _ rfl
       have e3:=hcell 3 _ rfl
       have e4:=hcell 4 _ rfl
       have e5:=hcell 5 _ rfl
       have e6:=hcell 6 _ rfl
       simp only[<- Nat.add_assoc,Nat.add_zero] at e0 e1 e2 e3 e4 e5 e6
       have hbr2:=cltK e0
       have HX:=zh (show z++[x.v]=q++(es.take (k+1)).map En.v by rw[HZ.out,zAn hx];simp)
       have hql:z.length+1<=1000000000000:=by have:=HQL.out;rw[HZ.out];simp;omega
       clear hcell hc hx
       go_wp2_with(at_builtin;refine wpList_append_own _ rfl _ _ 194 rfl w.heap.size 44 i0 _ 5 48 Tryz.underlying194 hi hz0 hz1 hz2 rfl (by decide) _ _ _ rfl (own_below HG3.out.2 bel) _ 1 1 x.v.cells rfl rfl ?_ ?_ ?_ ?_ ?_ ?_)
       ·first|exact fun i u hu=>zAe (by simp) i u hu|exact fun i u hu=>hu
       ·exact cells_one _
       ·simp only[maxLen];omega
       ·omega
       ·have h1:=HG3.out.1.size
        simp at h1 ⊢
        omega
       ·intro v' w3 hown' hgrow _
        have R:=zAW.step HG3.out bel (show w3.ownsRow w.heap.size 44 5 v' (z.length+1) (flat (z)++x.v.cells) from by simpa using hown') hgrow
        rw[show flat (z)++x.v.cells=flat (z++[x.v]) by rw[zC7];simp[flat],show z.length+1=(z++[x.v]).length by simp] at R
        have HG':=zh R
        clear hown' hgrow R HG3 e0 e1 e2 e3 e4 e5 e6
        go_wp2
        go_roundw
        case rel=>exact⟨k+1,_,by omega,by go_num,HX.out,HG'.out⟩
        case measure=>simp[intOf];omega
      ·obtain rfl:k=m:=by omega
       have hz:=HZ.out
       rw[List.take_of_length_le (show es.length<=k by omega),HQ.out] at hz
       have hG3:=HG3.out
       rw[hz] at hG3
       have HG':=zh hG3
       clear hG3 HG3 hz HZ
       go_wp2
       go_roundw
       case rel=>exact⟨j+1,by omega,by go_num,HG'.out⟩
       case measure=>simp[intOf];omega
   ·have hel:(zC3 (⟨true,val,top,left,bottom,right,ents,m,cc⟩,es)).length=m:=by simp[zC3];omega
    obtain⟨q,hq⟩:∃ q,q=r:=⟨_,rfl⟩
    have HQ:=zh (show q++es.map En.v=zA4 (pl.take (j+1)) by rw[hsn,hq];simp[zC3])
    have HQL:=zh (show q.length+m<=1000000000000 by have:=HT.out;rw[hq];omega)
    rw[<- hq] at HG
    clear hq
    go_wp2
    go_loopw [25,3] (fun t v wr=>∃ k:Nat,∃ z:List V,k<=m/\t=.int .i64 k/\z=q++(es.take k).map En.v/\zAW w wr 44 5 v z.length (flat z)) (fun t _ _=>m-(intOf t).toNat)
    case atStart=>exact⟨0,q,Nat.zero_le _,rfl,by simp,HG.out.1.trans ((show Below WO.heap.size WO _ from bel).mono HG.out.1.size),own_below HG.out.2 bel⟩
    case round =>
     obtain⟨k,z,hk,rfl,hz,hG3⟩:=hrel
     have HG3:=zh hG3
     have HZ:=zh hz
     clear hG3 hz
     by_cases hkl:k<m
     ·obtain⟨x,hx⟩:∃ x,es[k]? =some x:=⟨_,List.getElem?_eq_getElem (show k<es.length by omega)⟩
      obtain⟨bk,off,rfl,_,hc⟩:=HER.out.2 (by omega)
      have hws:=HG3.out.1.size
      have hcell:∀ i u,x.cells[i]? =some u->wr.cell? ⟨bk,off+(k*7+i),none⟩=some u:=fun i u hu=>by
       have h1:=hc _ u (zA9 En.cells 7 (fun _=>rfl) es k x hx i u hu)
       exact(HG3.out.1.cell (p:=⟨bk,_,none⟩) (World.block_lt_of_cell? w _ h1)).trans h1
      have e0:=hcell 0 _ rfl
      have e1:=hcell 1 _ rfl
      have e2:=hcell 2 _ rfl
      have e3:=hcell 3 _ rfl
      have e4:=hcell 4 _ rfl
      have e5:=hcell 5 _ rfl
      have e6:=hcell 6 _ rfl
      simp only[<- Nat.add_assoc,Nat.add_zero] at e0 e1 e2 e3 e4 e5 e6
      have hbr2:=cltK e0
      have HX:=zh (show z++[x.v]=q++(es.take (k+1)).map En.v by rw[HZ.out,zAn hx];simp)
      have hql:z.length+1<=1000000000000:=by have:=HQL.out;rw[HZ.out];simp;omega
      clear hcell hc hx
      go_wp2_with(at_builtin;refine wpList_append_own _ rfl _ _ 194 rfl w.heap.size 44 i0 _ 5 48 Tryz.underlying194 hi hz0 hz1 hz2 rfl (by decide) _ _ _ rfl (own_below HG3.out.2 bel) _ 1 1 x.v.cells rfl rfl ?_ ?_ ?_ ?_ ?_ ?_)
      ·first|exact fun i u hu=>zAe (by simp) i u hu|exact fun i u hu=>hu
      ·exact cells_one _
      ·simp only[maxLen];omega
      ·omega
      ·have h1:=HG3.out.1.size
       simp at h1 ⊢
       omega
      ·intro v' w3 hown' hgrow _
       have R:=zAW.step HG3.out bel (show w3.ownsRow w.heap.size 44 5 v' (z.length+1) (flat (z)++x.v.cells) from by simpa using hown') hgrow
       rw[show flat (z)++x.v.cells=flat (z++[x.v]) by rw[zC7];simp[flat],show z.length+1=(z++[x.v]).length by simp] at R
       have HG':=zh R
       clear hown' hgrow R HG3 e0 e1 e2 e3 e4 e5 e6
       go_wp2
       go_roundw
       case rel=>exact⟨k+1,_,by omega,by go_num,HX.out,HG'.out⟩
       case measure=>simp[intOf];omega
     ·obtain rfl:k=m:=by omega
      have hz:=HZ.out
      rw[List.take_of_length_le (show es.length<=k by omega),HQ.out] at hz
      have hG3:=HG3.out
      rw[hz] at hG3
      have HG':=zh hG3
      clear hG3 HG3 hz HZ
      go_wp2
      go_roundw
      case rel=>exact⟨j+1,by omega,by go_num,HG'.out⟩
      case measure=>simp[intOf];omega
  ·obtain rfl:j=n:=by omega
   have hG:=hG
   rw[List.take_of_length_le (by omega)] at hG
   obtain⟨hB,hO⟩:=hG
   have HO:=zh hO
   have HB:=zh hB
   clear hO hB
   go_wp2
   go_returns
   exact⟨_,rfl,HO.out,HB.out⟩
abbrev eObj (x:En):Obj:=.cells #[.int .i64 x.row,.int .i64 x.col,.int .i64 x.v.tag,.int .i64 x.v.num,.string x.v.str,.bool x.v.is,.int .i64 x.v.code] 57
theorem zAK {w:World} {base e size n:Nat} {v:Value} {xs:List Value} (h:w.ownsRow base e size v n xs):∃ A c,v=.slice A n c:=by
 rcases h.2 with ⟨h1,h2⟩|⟨g,cap,cur,e1,_⟩
 ·subst h2;exact⟨_,_,h1⟩
 ·exact⟨_,_,e1⟩
theorem asNum_63 (v:V) (h:Is64 v.num):In63 (zA5 v).1:=by
 unfold Is64 at h
 unfold In63 zA5
 by_cases hm:mayG v=false
 ·rw[if_pos hm];exact⟨by simp,by simp⟩
 ·rw[if_neg hm]
  split
  ·exact⟨by simp,by simp⟩
  ·split
   ·exact⟨by simp,by simp⟩
   ·split
    ·dsimp only[vG];split<;>exact⟨by decide,by decide⟩
    ·rename_i h4 h2 h3
     have hm':mayG v=true:=by simpa using hm
     dsimp only[vG]
     unfold mayG at hm'
     simp only[Bool.and_eq_true,decide_eq_true_eq] at hm'
     by_cases h1:v.tag=1
     ·rw[if_pos h1] at hm'
      have h5:v.num≠minI:=by simpa using hm'.2
      unfold minI at h5
      omega
     ·have h5:=hm'.1.2
      simp only[eqB,decide_eq_true_eq] at h5
      have h6:=congrArg V.num h5
      simp only[bareG,if_neg h1] at h6
      omega
def badN (v:V):Bool:=(zA5 v).2 != 0
def isF (v:V):Bool:=v.tag==4
def numsVals (s:ByteArray) (vs:List V):V:=match vs.find? isF with
 | some v=>v
 | none=>match vs.find? badN with
   | some v=>errG (zA5 v).2
   | none=>numDo s (vs.map fun v=>(zA5 v).1)
def zBE (s:ByteArray) (al:List Arg) (ok:Nat->Bool):V:=if (List.range al.length).all ok then if zBZ s (al.map Arg.many) then numsVals s (al.map Arg.val) else errG 8 else errG 8
theorem all_no {n:Nat} {ok:Nat->Bool} {j:Nat} (hj:j<n) (h:ok j=false):(List.range n).all ok=false:=by
 rw[List.all_eq_false]
 exact⟨j,List.mem_range.2 hj,by simp[h]⟩
theorem find_no {α:Type} {f:α->Bool} {l:List α} {j:Nat} {a:α} (h:l[j]? =some a) (hn:(l.take j).find? f=none) (hf:f a=false):(l.take (j+1)).find? f=none:=by
 rw[take1 h,List.find?_append,hn]
 simp[hf]
theorem find_yes {α:Type} {f:α->Bool} {l:List α} {j:Nat} {a:α} (h:l[j]? =some a) (hn:(l.take j).find? f=none) (hf:f a=true):l.find? f=some a:=by
 have h1:l=l.take (j+1)++l.drop (j+1):=(List.take_append_drop _ _).symm
 rw[h1,List.find?_append,take1 h,List.find?_append,hn]
 simp[hf]
theorem info_I:(Tryz.prog.info? 2).map (fun i=>(i.zero,i.size,i.bytes))=some (some (.int .i64 0),1,8):=by kernel_rfl
theorem takes_len {s:ByteArray} {xs:List Bool} (h:zBZ s xs=true):∃ x y,zC4 s=some (x,y)/\between x y xs.length=true/\1<=xs.length/\xs.length<=16:=by
 unfold zBZ at h
 cases e:zC4 s with
 | none=>rw[e] at h;cases h
 | some p =>
   obtain⟨x,y⟩:=p
   rw[e] at h
   simp only[Bool.and_eq_true] at h
   refine⟨x,y,rfl,h.1,?_⟩
   have h1:=h.1
   simp only[between,Bool.and_eq_true,decide_eq_true_eq] at h1
   have h2:1<=x/\y<=16:=by
    unfold zC4 at e
    by_cases eODD:(⟨#[79,68,68]⟩:ByteArray)=s
    ·rw[if_pos eODD] at e
     cases e
     exact⟨by decide,by decide⟩
    rw[if_neg eODD] at e
    by_cases eCLAMP:(⟨#[67,76,65,77,80]⟩:ByteArray)=s
    ·rw[if_pos eCLAMP] at e
     cases e
     exact⟨by decide,by decide⟩
    rw[if_neg eCLAMP] at e
    by_cases eFACT:(⟨#[70,65,67,84]⟩:ByteArray)=s
    ·rw[if_pos eFACT] at e
     cases e
     exact⟨by decide,by decide⟩
    rw[if_neg eFACT] at e
    by_cases eLCM:(⟨#[76,67,77]⟩:ByteArray)=s
    ·rw[if_pos eLCM] at e
     cases e
     exact⟨by decide,by decide⟩
    rw[if_neg eLCM] at e
    by_cases eGCD:(⟨#[71,67,68]⟩:ByteArray)=s
    ·rw[if_pos eGCD] at e
     cases e
     exact⟨by decide,by decide⟩
    rw[if_neg eGCD] at e
    by_cases eSQRT:(⟨#[83,81,82,84]⟩:ByteArray)=s
    ·rw[if_pos eSQRT] at e
     cases e
     exact⟨by decide,by decide⟩
    rw[if_neg eSQRT] at e
    by_cases ePOWER:(⟨#[80,79,87,69,82]⟩:ByteArray)=s
    ·rw[if_pos ePOWER] at e
     cases e
     exact⟨by decide,by decide⟩
    rw[if_neg ePOWER] at e
    by_cases eQUOT:(⟨#[81,85,79,84]⟩:ByteArray)=s
    ·rw[if_pos eQUOT] at e
     cases e
     exact⟨by decide,by decide⟩
    rw[if_neg eQUOT] at e
    by_cases eMOD:(⟨#[77,79,68]⟩:ByteArray)=s
    ·rw[if_pos eMOD] at e
     cases e
     exact⟨by decide,by decide⟩
    rw[if_neg eMOD] at e
    by_cases eCEIL:(⟨#[67,69,73,76]⟩:ByteArray)=s
    ·rw[if_pos eCEIL] at e
     cases e
     exact⟨by decide,by decide⟩
    rw[if_neg eCEIL] at e
    by_cases eFLOOR:(⟨#[70,76,79,79,82]⟩:ByteArray)=s
    ·rw[if_pos eFLOOR] at e
     cases e
     exact⟨by decide,by decide⟩
    rw[if_neg eFLOOR] at e
    by_cases eROUND:(⟨#[82,79,85,78,68]⟩:ByteArray)=s
    ·rw[if_pos eROUND] at e
     cases e
     exact⟨by decide,by decide⟩
    rw[if_neg eROUND] at e
    by_cases eTRUNC:(⟨#[84,82,85,78,67]⟩:ByteArray)=s
    ·rw[if_pos eTRUNC] at e
     cases e
     exact⟨by decide,by decide⟩
    rw[if_neg eTRUNC] at e
    by_cases eINT:(⟨#[73,78,84]⟩:ByteArray)=s
    ·rw[if_pos eINT] at e
     cases e
     exact⟨by decide,by decide⟩
    rw[if_neg eINT] at e
    by_cases eSIGN:(⟨#[83,73,71,78]⟩:ByteArray)=s
    ·rw[if_pos eSIGN] at e
     cases e
     exact⟨by decide,by decide⟩
    rw[if_neg eSIGN] at e
    by_cases eABS:(⟨#[65,66,83]⟩:ByteArray)=s
    ·rw[if_pos eABS] at e
     cases e
     exact⟨by decide,by decide⟩
    rw[if_neg eABS] at e
    cases e
   omega
theorem nums_Call (s:ByteArray) (al:List Arg) (A:Option Addr) (n c B:Nat) (tx:Int) (w:World) (hr:Reads w B 11 A n (zBC al)) (hm:n<=1000000000000) (h64:∀ a∈al,Is64 a.val.num) (ok:Nat->Bool)
  (hok:∀ j a,al[j]? =some a->∀ W,Below w.heap.size w W->Rt 131 #[a.agg] W (.bool (ok j))) :
  Rt 91 #[.string s,.slice A n c,.int .i64 tx] w (vG (zBE s al ok)):=by
 have hlen:al.length=n:=by
  have:=hr.1
  rw[zAo] at this
  omega
 obtain⟨bs,hbs⟩:∃ bs,bs=(al.map Arg.many).map Value.bool:=⟨_,rfl⟩
 have hbl:bs.length=n:=by rw[hbs];simp[hlen]
 have hbx:∀ (j:Nat) (x:Arg),al[j]? =some x->bs[j]? =some (.bool x.many):=fun j x hx=>by rw[hbs,List.getElem?_map,List.getElem?_map,hx];rfl
 obtain⟨R,hR⟩:∃ R,zBE s al ok=R:=⟨_,rfl⟩
 rw[hR]
 have HBX:=zh hbx
 have HBS:=zh hbs
 have HR:=zh hr
 have HOK:=zh hok
 have HRX:=zh hR
 have H64:=zh h64
 have HLEN:=zh hlen
 clear hbx hbs hr hok hR h64
 obtain⟨i0,hi,hz0,hz1,hz2⟩:=info_parts info_B
 go_enter Tryz.func91,Tryz.ntmps91
 go_wp2
 go_loopw [21,7] (fun t v wr=>∃ j:Nat,j<=n/\t=.int .i64 j/\(∀ k,k<j->ok k=true)/\zAW (w.alloc zeroV) wr 4 1 v j (bs.take j)) (fun t _ _=>n-(intOf t).toNat)
 case atStart=>exact⟨0,Nat.zero_le _,rfl,fun k hk=>by omega,Below.refl _ _,World.ownsRow_nil _ _ _ _⟩
 case round =>
  obtain⟨j,hj,rfl,hall,hG⟩:=hrel
  have hw0:Below w.heap.size w (w.alloc zeroV):=bel
  have hwr:Below w.heap.size w wr:=hw0.trans (hG.1.mono hw0.size)
  have hws:=hwr.size
  have HWR:=zh hwr
  have HALL:=zh hall
  have HG:=zh hG
  clear hall hG hwr hw0
  by_cases hlt:j<n
  ·obtain⟨a,ha⟩:∃ a,al[j]? =some a:=⟨_,List.getElem?_eq_getElem (show j<al.length by omega)⟩
   obtain⟨bk,off,rfl,_,hc⟩:=HR.out.2 (by omega)
   have hcell:∀ i u,a.cells[i]? =some u->wr.cell? ⟨bk,off+(j*11+i),none⟩=some u:=fun i u hu=>by
    have h1:=hc _ u (zAb al j a ha i u hu)
    exact(HWR.out.cell (p:=⟨bk,_,none⟩) (World.block_lt_of_cell? w _ h1)).trans h1
   have c0:=hcell 0 _ rfl
   have c1:=hcell 1 _ rfl
   have c2:=hcell 2 _ rfl
   have c3:=hcell 3 _ rfl
   have c4:=hcell 4 _ rfl
   have c5:=hcell 5 _ rfl
   have c6:=hcell 6 _ rfl
   have c7:=hcell 7 _ rfl
   have c8:=hcell 8 _ rfl
   have c9:=hcell 9 _ rfl
   have c10:=hcell 10 _ rfl
   simp only[<- Nat.add_assoc,Nat.add_zero] at c0 c1 c2 c3 c4 c5 c6 c7 c8 c9 c10
   have hbr:=cltK c0
   have HCW:=zh (fun i u (hu:a.cells[i]? =some u)=>hc _ u (zAb al j a ha i u hu))
   clear hcell hc
   have HAJ:=zh ha
   have hokj:=HOK.out j a ha
   obtain⟨z,hz⟩:∃ z,ok j=z:=⟨_,rfl⟩
   rw[hz] at hokj
   have HMH:=zh (fun W (hB:Below wr.heap.size wr W)=>hokj W (HWR.out.trans (hB.mono hws)))
   clear hokj ha
   cases z
   ·have HRR:=zh (show R=errG 8 by rw[<- HRX.out];unfold zBE;rw[HLEN.out,all_no hlt hz];rfl)
    clear hz
    obtain⟨l0,q0,hwe⟩:=zA0 HG.out.1
    subst hwe
    unfold zeroV at *
    clear c0 c1 c2 c3 c4 c5 c6 c7 c8 c9 c10 hbr
    have c0:=HCW.out 0 _ rfl
    have c1:=HCW.out 1 _ rfl
    have c2:=HCW.out 2 _ rfl
    have c3:=HCW.out 3 _ rfl
    have c4:=HCW.out 4 _ rfl
    have c5:=HCW.out 5 _ rfl
    have c6:=HCW.out 6 _ rfl
    have c7:=HCW.out 7 _ rfl
    have c8:=HCW.out 8 _ rfl
    have c9:=HCW.out 9 _ rfl
    have c10:=HCW.out 10 _ rfl
    simp only[<- Nat.add_assoc,Nat.add_zero] at c0 c1 c2 c3 c4 c5 c6 c7 c8 c9 c10
    have hbw:=cltK c0
    go_wp2_with(first|(go_at_call 131;refine mB (HMH.out _ bel) ?_;intro l2 q2)|(go_at_call 21;refine mB (zA3 _ _) ?_;intro l3 q3))
    all_goals go_returns
    all_goals exact⟨by rw[HRR.out],bel⟩
   ·have HZ:=zh hz
    clear hz
    go_wp2_with(first|(go_at_call 131;refine mB (HMH.out _ bel) ?_;intro l2 q2)|(at_builtin;refine wpList_append_own _ rfl _ _ 132 rfl (w.alloc zeroV).heap.size 4 i0 _ 1 1 Tryz.underlying132 hi hz0 hz1 hz2 rfl (by decide) _ _ _ rfl (own_below HG.out.2 bel) _ 1 1 [.bool a.many] rfl rfl ?_ ?_ ?_ ?_ ?_ ?_))
    ·exact fun i u hu=>zAe (by simp) i u hu
    ·intro u hu;simp only[List.mem_cons,List.not_mem_nil,or_false] at hu;subst hu;rfl
    ·simp only[maxLen];omega
    ·omega
    ·have h1:=HG.out.1.size
     simp at h1 ⊢
     omega
    ·intro v' w3 hown' hgrow _
     have R:=zAW.step HG.out bel (show w3.ownsRow (w.alloc zeroV).heap.size 4 1 v' (j+1) (bs.take j++[.bool a.many]) from by simpa using hown') hgrow
     rw[<- zAn (HBX.out j a HAJ.out)] at R
     have HG':=zh R
     clear hown' hgrow R HG c0 c1 c2 c3 c4 c5 c6 c7 c8 c9 c10
     go_wp2
     go_roundw
     case rel=>exact⟨j+1,by omega,by go_num,fun k hk=>by (by_cases e:k=j;(subst e;exact HZ.out);exact HALL.out k (by omega)),HG'.out⟩
     case measure=>simp[intOf];omega
  ·obtain rfl:j=n:=by omega
   have hG:=HG.out
   rw[List.take_of_length_le (by omega)] at hG
   obtain⟨hB,hO⟩:=hG
   obtain⟨xsB,hxb⟩:∃ xsB,xsB=al.map Arg.many:=⟨_,rfl⟩
   rw[HBS.out,<-hxb] at hO
   obtain⟨A',c',rfl⟩:=zAK hO
   have HRD:=zh (Reads.zB5 hO)
   have hall:(List.range al.length).all ok=true:=by
    rw[HLEN.out,List.all_eq_true]
    intro k hk
    exact HALL.out k (List.mem_range.1 hk)
   obtain⟨tk,htk⟩:∃ tk,zBZ s xsB=tk:=⟨_,rfl⟩
   have hR2:R=if tk then numsVals s (al.map Arg.val) else errG 8:=by rw[<- HRX.out];unfold zBE;rw[if_pos hall,<-hxb,htk]
   have HTK:=zh htk
   have hxl:xsB.length=j:=by rw[hxb,List.length_map,HLEN.out]
   have HXL:=zh hxl
   obtain⟨l0,q0,rfl⟩:=zA0 hB
   clear hO hB HG HALL hall hxb htk hxl HWR hws HOK
   cases tk
   ·have HRR:=zh (show R=errG 8 from hR2)
    clear hR2
    unfold zeroV at *
    go_wp2_with(first|(go_at_call 90;refine(nums_Takes s A' j c' xsB _ _ HRD.out (by omega)).mono ?_;rw[HTK.out];rintro e w4 ⟨rfl,hb⟩;obtain⟨l4,q4,rfl⟩:=zA0 hb;clear hb)|(go_at_call 21;refine mB (zA3 _ _) ?_;intro l3 q3))
    all_goals go_returns
    all_goals exact⟨by rw[HRR.out],bel⟩
   ·have HR2:=zh (show R=numsVals s (al.map Arg.val) from hR2)
    obtain⟨x,y,ht,hbt,hn1,hn16⟩:=takes_len HTK.out
    rw[HXL.out] at hbt hn1 hn16
    have HT:=zh ht
    have HBT:=zh hbt
    clear hR2 ht hbt
    obtain⟨vs,hvs⟩:∃ vs,vs=al.map Arg.val:=⟨_,rfl⟩
    have hva:∀ (j:Nat) (x:Arg),al[j]? =some x->vs[j]? =some x.val:=fun j x hx=>by rw[hvs,List.getElem?_map,hx];rfl
    have hvl:vs.length=j:=by rw[hvs,List.length_map,HLEN.out]
    rw[<- hvs] at HR2
    have HVA:=zh hva
    have hv64:∀ v∈vs,Is64 v.num:=by
     intro v hv
     rw[hvs] at hv
     obtain⟨a,ha,rfl⟩:=List.mem_map.1 hv
     exact H64.out a ha
    have HV64:=zh hv64
    clear hva hvs hv64
    obtain⟨n,hn⟩:∃ n,n=j:=⟨_,rfl⟩
    subst hn
    go_wp2_with(go_at_call 90;refine(nums_Takes s A' n c' xsB _ _ HRD.out (by omega)).mono ?_;rw[HTK.out];rintro e w4 ⟨rfl,hb⟩;obtain⟨l4,q4,rfl⟩:=zA0 hb;clear hb)
    go_loopw [42] (fun t wr=>∃ j:Nat,j<=n/\t=.int .i64 j/\(vs.take j).find? isF=none/\Below (w.alloc zeroV).heap.size (w.alloc zeroV) wr) (fun t _=>n-(intOf t).toNat)
    case atStart=>exact⟨0,Nat.zero_le _,rfl,rfl,bel⟩
    case round =>
     obtain⟨j,hj,rfl,hno,hB0⟩:=hrel
     have hw0:Below w.heap.size w (w.alloc zeroV):=bel
     have hwr:Below w.heap.size w wr:=hw0.trans (hB0.mono hw0.size)
     have hws:=hwr.size
     have HWR:=zh hwr
     have HNO:=zh hno
     have HB0:=zh hB0
     clear hno hB0 hwr hw0
     by_cases hlt:j<n
     ·obtain⟨a,ha⟩:∃ a,al[j]? =some a:=⟨_,List.getElem?_eq_getElem (show j<al.length by have:=HLEN.out;omega)⟩
      obtain⟨bk,off,rfl,_,hc⟩:=HR.out.2 (by omega)
      have hcell:∀ i u,a.cells[i]? =some u->wr.cell? ⟨bk,off+(j*11+i),none⟩=some u:=fun i u hu=>by
       have h1:=hc _ u (zAb al j a ha i u hu)
       exact(HWR.out.cell (p:=⟨bk,_,none⟩) (World.block_lt_of_cell? w _ h1)).trans h1
      have c0:=hcell 0 _ rfl
      have c1:=hcell 1 _ rfl
      have c2:=hcell 2 _ rfl
      have c3:=hcell 3 _ rfl
      have c4:=hcell 4 _ rfl
      have c5:=hcell 5 _ rfl
      have c6:=hcell 6 _ rfl
      have c7:=hcell 7 _ rfl
      have c8:=hcell 8 _ rfl
      have c9:=hcell 9 _ rfl
      have c10:=hcell 10 _ rfl
      simp only[<- Nat.add_assoc,Nat.add_zero] at c0 c1 c2 c3 c4 c5 c6 c7 c8 c9 c10
      have hbr:=cltK c0
      have HCW:=zh (fun i u (hu:a.cells[i]? =some u)=>hc _ u (zAb al j a ha i u hu))
      clear hcell hc
      have hvj:=HVA.out j a ha
      clear ha
      by_cases hf:a.val.tag=4
      ·have HRR:=zh (show R=a.val by rw[HR2.out];unfold numsVals;rw[find_yes hvj HNO.out (by simp[isF,hf])])
       have hf':(a.val.tag==4)=true:=by simp[hf]
       clear hf hvj
       obtain⟨l0,q0,hwe⟩:=zA0 HB0.out
       subst hwe
       unfold zeroV at *
       clear c0 c1 c2 c3 c4 c5 c6 c7 c8 c9 c10 hbr
       have c0:=HCW.out 0 _ rfl
       have c1:=HCW.out 1 _ rfl
       have c2:=HCW.out 2 _ rfl
       have c3:=HCW.out 3 _ rfl
       have c4:=HCW.out 4 _ rfl
       have c5:=HCW.out 5 _ rfl
       have c6:=HCW.out 6 _ rfl
       have c7:=HCW.out 7 _ rfl
       have c8:=HCW.out 8 _ rfl
       have c9:=HCW.out 9 _ rfl
       have c10:=HCW.out 10 _ rfl
       simp only[<- Nat.add_assoc,Nat.add_zero] at c0 c1 c2 c3 c4 c5 c6 c7 c8 c9 c10
       have hbw:=cltK c0
       go_wp2
       all_goals go_returns
       all_goals exact⟨by rw[HRR.out],bel⟩
      ·have HN2:=zh (find_no hvj HNO.out (by simp[isF,hf]))
       have hf':(a.val.tag==4)=false:=by simp[hf]
       clear hf hvj
       go_wp2
       go_roundw
       case rel=>exact⟨j+1,by omega,by go_num,HN2.out,HB0.out.trans ((show Below wr.heap.size wr _ from bel).mono HB0.out.size)⟩
       case measure=>simp[intOf];omega
     ·obtain rfl:j=n:=by omega
      have hno:=HNO.out
      rw[List.take_of_length_le (by omega)] at hno
      have HR3:=zh (show R=match vs.find? badN with|some v=>errG (zA5 v).2|none=>numDo s (vs.map fun v=>(zA5 v).1) by rw[HR2.out];unfold numsVals;rw[hno])
      clear hno HNO
      obtain⟨iI,hiI,hz0I,hz1I,hz2I⟩:=info_parts info_I
      obtain⟨l5,q5,hwe⟩:=zA0 HB0.out
      subst hwe
      obtain⟨n,hn⟩:∃ n,n=j:=⟨_,rfl⟩
      subst hn
      go_wp2
      go_loopw [55,12] (fun t v wr=>∃ j:Nat,j<=n/\t=.int .i64 j/\(vs.take j).find? badN=none/\zAW (w.alloc zeroV) wr 2 1 v j (I ((vs.take j).map fun v=>(zA5 v).1))) (fun t _ _=>n-(intOf t).toNat)
      case atStart=>exact⟨0,Nat.zero_le _,rfl,rfl,bel,World.ownsRow_nil _ _ _ _⟩
      case round =>
       obtain⟨j,hj,rfl,hno,hG⟩:=hrel
       have hw0:Below w.heap.size w (w.alloc zeroV):=bel
       have hwr:Below w.heap.size w wr:=hw0.trans (hG.1.mono hw0.size)
       have hws:=hwr.size
       have HWR:=zh hwr
       have HNO:=zh hno
       have HG:=zh hG
       clear hno hG hwr hw0
       by_cases hlt:j<n
       ·obtain⟨a,ha⟩:∃ a,al[j]? =some a:=⟨_,List.getElem?_eq_getElem (show j<al.length by have:=HLEN.out;omega)⟩
        obtain⟨bk,off,rfl,_,hc⟩:=HR.out.2 (by omega)
        have hcell:∀ i u,a.cells[i]? =some u->wr.cell? ⟨bk,off+(j*11+i),none⟩=some u:=fun i u hu=>by
         have h1:=hc _ u (zAb al j a ha i u hu)
         exact(HWR.out.cell (p:=⟨bk,_,none⟩) (World.block_lt_of_cell? w _ h1)).trans h1
        have c0:=hcell 0 _ rfl
        have c1:=hcell 1 _ rfl
        have c2:=hcell 2 _ rfl
        have c3:=hcell 3 _ rfl
        have c4:=hcell 4 _ rfl
        have c5:=hcell 5 _ rfl
        have c6:=hcell 6 _ rfl
        have c7:=hcell 7 _ rfl
        have c8:=hcell 8 _ rfl
        have c9:=hcell 9 _ rfl
        have c10:=hcell 10 _ rfl
        simp only[<- Nat.add_assoc,Nat.add_zero] at c0 c1 c2 c3 c4 c5 c6 c7 c8 c9 c10
        have hbr:=cltK c0
        have HCW:=zh (fun i u (hu:a.cells[i]? =some u)=>hc _ u (zAb al j a ha i u hu))
        clear hcell hc
        have hvj:=HVA.out j a ha
        clear ha
        have HVJ:=zh hvj
        cases hbd:((zA5 a.val).2 != 0)
        ·have HN2:=zh (find_no HVJ.out HNO.out hbd)
         clear hvj
         go_wp2_with(first|(go_at_call 35;refine mB (zAG a.val _) ?_;intro l2 q2)|(at_builtin;refine wpList_append_own _ rfl _ _ 201 rfl (w.alloc zeroV).heap.size 2 iI _ 1 8 Tryz.underlying201 hiI hz0I hz1I hz2I rfl (by decide) _ _ _ rfl (own_below HG.out.2 bel) _ 1 1 (I [(zA5 a.val).1]) rfl rfl ?_ ?_ ?_ ?_ ?_ ?_))
         ·exact fun i u hu=>zAe (by simp) i u hu
         ·intro u hu;simp only[I,List.map_cons,List.map_nil,List.mem_cons,List.not_mem_nil,or_false] at hu;subst hu;rfl
         ·simp only[maxLen];omega
         ·omega
         ·have h1:=HG.out.1.size
          simp at h1 ⊢
          omega
         ·intro v' w3 hown' hgrow _
          have R:=zAW.step HG.out bel (show w3.ownsRow (w.alloc zeroV).heap.size 2 1 v' (j+1) (I ((vs.take j).map fun v=>(zA5 v).1)++I [(zA5 a.val).1]) from by simpa using hown') hgrow
          rw[show I ((vs.take j).map fun v=>(zA5 v).1)++I [(zA5 a.val).1]=I ((vs.take (j+1)).map fun v=>(zA5 v).1) by rw[take1 HVJ.out];simp[I]] at R
          have HG':=zh R
          clear hown' hgrow R HG c0 c1 c2 c3 c4 c5 c6 c7 c8 c9 c10
          go_wp2
          go_roundw
          case rel=>exact⟨j+1,by omega,by go_num,HN2.out,HG'.out⟩
          case measure=>simp[intOf];omega
        ·have HRR:=zh (show R=errG (zA5 a.val).2 by rw[HR3.out,find_yes HVJ.out HNO.out hbd])
         clear hvj
         obtain⟨l0,q0,hwe⟩:=zA0 HG.out.1
         subst hwe
         unfold zeroV at *
         clear c0 c1 c2 c3 c4 c5 c6 c7 c8 c9 c10 hbr
         have c0:=HCW.out 0 _ rfl
         have c1:=HCW.out 1 _ rfl
         have c2:=HCW.out 2 _ rfl
         have c3:=HCW.out 3 _ rfl
         have c4:=HCW.out 4 _ rfl
         have c5:=HCW.out 5 _ rfl
         have c6:=HCW.out 6 _ rfl
         have c7:=HCW.out 7 _ rfl
         have c8:=HCW.out 8 _ rfl
         have c9:=HCW.out 9 _ rfl
         have c10:=HCW.out 10 _ rfl
         simp only[<- Nat.add_assoc,Nat.add_zero] at c0 c1 c2 c3 c4 c5 c6 c7 c8 c9 c10
         have hbw:=cltK c0
         go_wp2_with(first|(go_at_call 35;refine mB (zAG a.val _) ?_;intro l2 q2)|(go_at_call 21;refine mB (zA3 _ _) ?_;intro l3 q3))
         all_goals go_returns
         all_goals exact⟨by rw[HRR.out],bel⟩
       ·obtain rfl:j=n:=by omega
        have hno:=HNO.out
        have hG:=HG.out
        rw[List.take_of_length_le (by omega)] at hno hG
        have HRR:=zh (show R=numDo s (vs.map fun v=>(zA5 v).1) by rw[HR3.out,hno])
        obtain⟨ls,hls⟩:∃ ls,vs.map (fun v=>(zA5 v).1)=ls:=⟨_,rfl⟩
        rw[hls] at hG HRR
        have hll:ls.length=j:=by rw[<- hls,List.length_map,hvl]
        have hl63:∀ b∈ls,In63 b:=by
         intro b hb
         rw[<- hls] at hb
         obtain⟨v,hv,rfl⟩:=List.mem_map.1 hb
         exact asNum_63 v (HV64.out v hv)
        obtain⟨hB,hO⟩:=hG
        obtain⟨g,cc,rfl,hg1,hg2,hH⟩:=own_form hO (by omega)
        have HH:=zh (show AtB wr g (I ls) from hH)
        have HLL:=zh hll
        have HL63:=zh hl63
        clear hO hH hno hls hll hl63 HNO HG HRD HR HVA HBX
        obtain⟨l6,q6,rfl⟩:=zA0 hB
        clear hB
        unfold zeroV at *
        go_wp2_with fail
        go_at_call 129
        refine(zC0 s x y HT.out _).mono ?_
        rintro e wf ⟨⟨fn,first,cap,rfl,p1,p2,p3,hfn,hk1,hk2,hk3⟩,hb⟩
        have hD:=num_do HT.out hfn hk1 hk2 hk3 ls (by rw[HLL.out];exact HBT.out) HL63.out
        have hHf:=HH.out.below hb
        have hgf:g<wf.heap.size:=Nat.lt_of_lt_of_le hg2 hb.size
        obtain⟨l7,q7,rfl⟩:=zA0 hb
        rw[zAO] at hHf hD hgf ⊢
        have HHF:=zh hHf
        clear hfn hk1 hk2 hk3 hHf hb
        rcases hD with ⟨k,rfl,rfl,rfl,hk,hc⟩|⟨k,p,rfl,rfl,rfl,hk,hc⟩
        ·have HC:=zh hc
         clear hc
         rw[HLL.out] at HC
         go_wp2_with(with_reducible refine Calls.mono (HC.out _ g cc bel (HHF.out.below bel) (by go_size)) ?_;rintro e w5 ⟨rfl,hb⟩;obtain⟨l8,q8,rfl⟩:=zA0 hb;clear hb)
         all_goals go_returns
         all_goals exact⟨by rw[HRR.out],bel⟩
        ·have HC:=zh hc
         clear hc
         rw[HLL.out] at HC
         go_wp2_with(with_reducible refine Calls.mono (HC.out _ g cc bel (HHF.out.below bel) (by go_size)) ?_;rintro e w5 ⟨rfl,hb⟩;obtain⟨l8,q8,rfl⟩:=zA0 hb;clear hb)
         all_goals go_returns
         all_goals exact⟨by rw[HRR.out],bel⟩
def zeroG:V:=⟨0,0,⟨#[]⟩,false,0⟩
def isN (v:V):Bool:=v.tag==1
def numsOf (l:List V):List Int:=(l.filter isN).map V.num
def zAA (vs:List V):List Int×V:=match vs.find? isF with
 | some v=>([],v)
 | none=>(numsOf vs,zeroG)
theorem numsOf_snoc {vs:List V} {j:Nat} {v:V} (h:vs[j]? =some v):numsOf (vs.take (j+1))=numsOf (vs.take j)++(if isN v then [v.num] else []):=by
 rw[zAn h]
 unfold numsOf
 rw[List.filter_append,List.map_append]
 by_cases hv:isN v<;>simp[hv]
theorem numsOf_le (vs:List V):(numsOf vs).length<=vs.length:=by
 unfold numsOf
 rw[List.length_map]
 exact List.length_filter_le _ _
theorem own_base {w:World} {base base' e size n:Nat} {v:Value} {xs:List Value} (h:w.ownsRow base e size v n xs) (hb:base'<=base):w.ownsRow base' e size v n xs:=by
 refine⟨h.1,?_⟩
 rcases h.2 with h2|⟨g,cap,cur,e1,hg,rest⟩
 ·exact .inl h2
 ·exact .inr ⟨g,cap,cur,e1,by omega,rest⟩
theorem aggs_among (vs:List V) (A:Option Addr) (n c B:Nat) (w:World) (hr:Reads w B 5 A n (flat vs)) (hm:n<=1000000000000) :
  Calls Tryz.prog 265 #[.slice A n c] w fun e w'=>∃ v,e=.returned (.tuple #[v,(vG ((zAA vs).2))])/\w'.ownsRow w.heap.size 2 1 v (zAA vs).1.length (I (zAA vs).1)/\Below w.heap.size w w':=by
 have hlen:vs.length=n:=by
  have:=hr.1
  rw[flat_length] at this
  omega
 obtain⟨R,hR⟩:∃ R,zAA vs=R:=⟨_,rfl⟩
 rw[hR]
 have HRX:=zh hR
 have HR:=zh hr
 have HLEN:=zh hlen
 clear hr hR
 obtain⟨i0,hi,hz0,hz1,hz2⟩:=info_parts info_I
 go_enter Tryz.func265,Tryz.ntmps265
 go_wp2
 go_loopw [9,4] (fun t v wr=>∃ j:Nat,∃ z:List Int,j<=n/\t=.int .i64 j/\(vs.take j).find? isF=none/\z=numsOf (vs.take j)/\zAW (w.alloc zeroV) wr 2 1 v z.length (I z)) (fun t _ _=>n-(intOf t).toNat)
 case atStart=>exact⟨0,[],Nat.zero_le _,rfl,rfl,rfl,Below.refl _ _,World.ownsRow_nil _ _ _ _⟩
 case round =>
  obtain⟨j,z,hj,rfl,hno,hz,hG⟩:=hrel
  have hw0:Below w.heap.size w (w.alloc zeroV):=bel
  have hwr:Below w.heap.size w wr:=hw0.trans (hG.1.mono hw0.size)
  have hws:=hwr.size
  have hzl:z.length<=j:=by rw[hz];exact Nat.le_trans (numsOf_le _) (by rw[List.length_take];omega)
  have HWR:=zh hwr
  have HNO:=zh hno
  have HG:=zh hG
  have HZ:=zh hz
  clear hno hG hwr hw0 hz
  by_cases hlt:j<n
  ·obtain⟨x,hx⟩:∃ x,vs[j]? =some x:=⟨_,List.getElem?_eq_getElem (show j<vs.length by omega)⟩
   obtain⟨bk,off,rfl,_,hc⟩:=HR.out.2 (by omega)
   have HCW:=zh (fun i u (hu:x.cells[i]? =some u)=>hc _ u (flat_at vs j x hx i u hu))
   have hcell:∀ i u,x.cells[i]? =some u->wr.cell? ⟨bk,off+(j*5+i),none⟩=some u:=fun i u hu=>by
    have h1:=hc _ u (flat_at vs j x hx i u hu)
    exact(HWR.out.cell (p:=⟨bk,_,none⟩) (World.block_lt_of_cell? w _ h1)).trans h1
   have c0:=hcell 0 _ rfl
   have c1:=hcell 1 _ rfl
   have c2:=hcell 2 _ rfl
   have c3:=hcell 3 _ rfl
   have c4:=hcell 4 _ rfl
   simp only[<- Nat.add_assoc,Nat.add_zero] at c0 c1 c2 c3 c4
   have hbr:=cltK c0
   clear hcell hc
   by_cases hf:x.tag=4
   ·have HRR:=zh (show R=([],x) by rw[<- HRX.out];unfold zAA;rw[find_yes hx HNO.out (by simp[isF,hf])])
    have hf':(x.tag==4)=true:=by simp[hf]
    clear hf hx
    obtain⟨l0,q0,hwe⟩:=zA0 HG.out.1
    subst hwe
    unfold zeroV at *
    clear c0 c1 c2 c3 c4 hbr
    have c0:=HCW.out 0 _ rfl
    have c1:=HCW.out 1 _ rfl
    have c2:=HCW.out 2 _ rfl
    have c3:=HCW.out 3 _ rfl
    have c4:=HCW.out 4 _ rfl
    simp only[<- Nat.add_assoc,Nat.add_zero] at c0 c1 c2 c3 c4
    have hbw:=cltK c0
    go_wp2
    all_goals go_region
    all_goals go_wp2
    all_goals go_returns
    all_goals exact⟨_,by rw[HRR.out],by rw[HRR.out];exact World.ownsRow_nil _ _ _ _,bel⟩
   ·have HN2:=zh (find_no hx HNO.out (by simp[isF,hf]))
    have hf':(x.tag==4)=false:=by simp[hf]
    have hsn:=numsOf_snoc hx
    clear hf hx
    by_cases h1:x.tag=1
    ·have h1':(x.tag==1)=true:=by simp[h1]
     have HS:=zh (show numsOf (vs.take (j+1))=z++[x.num] by rw[hsn,HZ.out];simp[isN,h1])
     clear h1 hsn
     go_wp2_with(at_builtin;refine wpList_append_own _ rfl _ _ 201 rfl (w.alloc zeroV).heap.size 2 i0 _ 1 8 Tryz.underlying201 hi hz0 hz1 hz2 rfl (by decide) _ _ _ rfl (own_below HG.out.2 bel) _ 1 1 (I [x.num]) rfl rfl ?_ ?_ ?_ ?_ ?_ ?_)
     ·first|exact fun i u hu=>zAe (by simp) i u hu|exact fun i u hu=>hu
     ·intro u hu;simp only[I,List.map_cons,List.map_nil,List.mem_cons,List.not_mem_nil,or_false] at hu;subst hu;rfl
     ·simp only[maxLen];omega
     ·omega
     ·have h1:=HG.out.1.size
      simp at h1 ⊢
      omega
     ·intro v' w3 hown' hgrow _
      have R:=zAW.step HG.out bel (show w3.ownsRow (w.alloc zeroV).heap.size 2 1 v' (z.length+1) (I z++I [x.num]) from by simpa using hown') hgrow
      rw[show I z++I [x.num]=I (z++[x.num]) by simp[I],show z.length+1=(z++[x.num]).length by simp] at R
      have HG':=zh R
      clear hown' hgrow R HG c0 c1 c2 c3 c4
      go_wp2
      go_roundw
      case rel=>exact⟨j+1,_,by omega,by go_num,HN2.out,HS.out.symm,HG'.out⟩
      case measure=>simp[intOf];omega
    ·have h1':(x.tag==1)=false:=by simp[h1]
     have HS:=zh (show numsOf (vs.take (j+1))=z by rw[hsn,HZ.out];simp[isN,h1])
     clear h1 hsn
     go_wp2
     go_roundw
     case rel=>exact⟨j+1,_,by omega,by go_num,HN2.out,HS.out.symm,HG.out.1.trans ((show Below wr.heap.size wr _ from bel).mono HG.out.1.size),own_below HG.out.2 bel⟩
     case measure=>simp[intOf];omega
  ·obtain rfl:j=n:=by omega
   have hno:=HNO.out
   have hz:=HZ.out
   rw[List.take_of_length_le (by omega)] at hno hz
   have HRR:=zh (show R=(z,zeroG) by rw[<- HRX.out,hz];unfold zAA;rw[hno])
   have HO:=zh HG.out.2
   obtain⟨l0,q0,hwe⟩:=zA0 HG.out.1
   subst hwe
   clear hno hz HG HNO HZ
   unfold zeroV at *
   go_wp2
   all_goals go_returns
   all_goals exact⟨_,by rw[HRR.out];rfl,by rw[HRR.out];exact own_base (own_below HO.out bel) (by simp),bel⟩
def ren_C:Go.Shelf.Ren:=⟨fun _=>267,fun _=>146,fun k=>k⟩
theorem lays_C:Go.Proofs.Lays7.n25 Tryz.prog ren_C:= {
 mixed:=by kernel_rfl
 f25:=by kernel_rfl
 t22:=by kernel_rfl
 a22:=fun w=>by kernel_rfl
 z22:=fun w=>by kernel_rfl
 v22:=fun w=>by kernel_rfl
 i22:=by kernel_rfl }
theorem run_Add64 (x y c:Nat) (hc:c<=1) (w:World):(callFunc 267 #[.int .u64 x,.int .u64 y,.int .u64 c]).run Tryz.prog w =
  .ok (.value (.tuple #[.int .u64 (((x+y+c) % 18446744073709551616:Nat):Int),.int .u64 (((x+y+c) / 18446744073709551616:Nat):Int)])) w :=
 Any7.bits_Add64 lays_C x y c hc w
def sumO (S:Int):Obj:=.cells #[.int .i64 (S / 18446744073709551616),.int .u64 (S % 18446744073709551616)] 245 (0,0)
def sumZ:Obj:=.cells #[.int .i64 0,.int .u64 0] 245
theorem run_Add64' (a b:Int) (ha:0<=a) (hb:0<=b) (w:World):(callFunc 267 #[.int .u64 a,.int .u64 b,.int .u64 0]).run Tryz.prog w =
  .ok (.value (.tuple #[.int .u64 ((a+b) % 18446744073709551616),.int .u64 ((a+b) / 18446744073709551616)])) w:=by
 obtain⟨x,rfl⟩:=Int.eq_ofNat_of_zero_le ha
 obtain⟨y,rfl⟩:=Int.eq_ofNat_of_zero_le hb
 exact run_Add64 x y 0 (by decide) w
theorem sum_words {S x:Int} (hx:Is64 x):∃ y ca:Int,IntKind.u64.wrap x=y/\0<=y/\0<=ca/\ca<=1/\(S % 18446744073709551616+y) % 18446744073709551616=(S+x) % 18446744073709551616 /\
  (S % 18446744073709551616+y) / 18446744073709551616=ca/\S / 18446744073709551616+x / 9223372036854775808+ca=(S+x) / 18446744073709551616:=by
 unfold Is64 at hx
 refine⟨_,_,rfl,?_,?_,?_,?_,rfl,?_⟩
 all_goals rw[show IntKind.u64.wrap x=x % 18446744073709551616 from rfl]
 all_goals omega
theorem aggs_sum (l:List Int) (A:Option Addr) (n c B:Nat) (w:World) (hr:Reads w B 1 A n (I l)) (hm:n<=1000000000000) (h64:∀ x∈l,Is64 x) :
  Rt 203 #[.slice A n c] w (.agg #[.int .i64 (l.sum / 18446744073709551616),.int .u64 (l.sum % 18446744073709551616)]):=by
 have hlen:l.length=n:=by have:=hr.1;simp[I] at this;omega
 have HR:=zh hr
 have H64:=zh h64
 clear hr h64
 go_enter Tryz.func203,Tryz.ntmps203
 go_wp2
 go_loopw [10] (fun t wr=>∃ j:Nat,∃ S:Int,j<=n/\t=.int .i64 j/\S=(l.take j).sum/\(-9223372036854775808*(j:Int)<=S/\S<=9223372036854775808*(j:Int))/\Below (w.alloc sumZ).heap.size (w.alloc sumZ) wr/\wr.heap[(w.alloc sumZ).heap.size]? =some (sumO S)) (fun t _=>n-(intOf t).toNat)
 case atStart=>exact⟨0,0,Nat.zero_le _,rfl,rfl,⟨by decide,by decide⟩,zBx (Below.refl _ _) sumZ (Nat.le_refl _),heap_alloc_new (w.alloc sumZ) sumZ⟩
 case round =>
  obtain⟨j,S,hj,rfl,hS,⟨hS1,hS2⟩,hB,hO⟩:=hrel
  have hO:wr.heap[w.heap.size+1]? =some (.cells #[.int .i64 (S / 18446744073709551616),.int .u64 (S % 18446744073709551616)] 245 (0,0)):=by simpa [sumO] using hO
  have b0:wr.cell? ⟨w.heap.size+1,0,none⟩=some (.int .i64 (S / 18446744073709551616)):=by rw[Lib.cell_of_heap hO];rfl
  have b1:wr.cell? ⟨w.heap.size+1,1,none⟩=some (.int .u64 (S % 18446744073709551616)):=by rw[Lib.cell_of_heap hO];rfl
  have bf:∀ i,wr.frozen? ⟨w.heap.size+1,i,none⟩=false:=fun i=>Lib.frozen_of_heap hO i
  have bf0:=bf 0
  have bf1:=bf 1
  have hls:w.heap.size+1<wr.heap.size:=World.block_lt_of_cell? wr _ b0
  have hb2:Below w.heap.size w wr:=(show Below w.heap.size w (w.alloc sumZ) from bel).trans (hB.mono (by simp))
  have HO:=zh hO
  have HB:=zh hB
  have HB2:=zh hb2
  have HS:=zh hS
  clear bf hO hB hb2 hS
  by_cases hlt:j<n
  ·obtain⟨x,hx⟩:∃ x,l[j]? =some x:=⟨_,List.getElem?_eq_getElem (show j<l.length by omega)⟩
   obtain⟨bk,off,rfl,_,hc⟩:=HR.out.2 (by omega)
   have c0:wr.cell? ⟨bk,off+j,none⟩=some (.int .i64 x):=by
    have h1:=hc j (.int .i64 x) (by simp[I,hx])
    exact(HB2.out.cell (p:=⟨bk,_,none⟩) (World.block_lt_of_cell? w _ h1)).trans h1
   obtain⟨y,ca,hy,y0,k0,k1,g1,g2,g3⟩:=sum_words (S:=S) (H64.out x (List.mem_of_getElem? hx))
   have hA:=fun W=>run_Add64' (S % 18446744073709551616) y (by omega) y0 W
   rw[g1,g2] at hA
   have HG3:=zh g3
   clear g1 g2 g3
   have HX:=zh hx
   have hx64:=H64.out x (List.mem_of_getElem? hx)
   clear hx
   go_wp2
   have e1:wrap64 (wrap64 (S / 18446744073709551616+x / 9223372036854775808)+ca)=(S+x) / 18446744073709551616:=by
    have:=HG3.out
    unfold Is64 at hx64
    unfold wrap64
    omega
   rw[e1]
   refine⟨⟨j+1,S+x,by omega,by go_num,by rw[HS.out,zAn HX.out];simp,⟨by unfold Is64 at hx64;omega,by unfold Is64 at hx64;omega⟩,?_,?_⟩,by simp[intOf];omega⟩
   ·exact(HB.out.setCell (p:=⟨w.heap.size+1,0,none⟩) (by simp) _).setCell (p:=⟨w.heap.size+1,1,none⟩) (by simp) _
   ·have hO:=HO.out
    simp only[World.size_alloc]
    rw[heap_setCell_same _ _ _ _ _ _ (heap_setCell_same _ _ _ _ _ _ hO)]
    rfl
  ·obtain rfl:j=n:=by omega
   have hS:=HS.out
   rw[List.take_of_length_le (by omega)] at hS
   have HSS:=zh hS
   obtain⟨l0,q0,hwe⟩:=zA0 HB.out
   subst hwe
   unfold sumZ at *
   clear hS HO HS HB HB2
   go_wp2
   go_returns
   exact⟨by rw[HSS.out],bel⟩
end Go.Proofs.YtppghgnhlgoagaaGreatDoor
