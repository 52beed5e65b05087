/- Parts. -/
import Derived.Test.YtppghgnhlgoagaaGreatDoorG26
import Derived.Test.YtppghgnhlgoagaaGreatDoorG25
import Derived.Test.YtppghgnhlgoagaaGreatDoorG20
set_option linter.all false
set_option maxRecDepth 100000
set_option maxHeartbeats 4000000
namespace Go.Proofs.YtppghgnhlgoagaaGreatDoor
open Go Go.RowKit
open Go.Lib renaming hid->zh
def zBA (text:Nat):List ByteArray->List UInt8->V
 | [],acc=>toldX text ⟨acc.toArray⟩
 | s::r,acc=>if (text:Int)-acc.length<s.size then errG 7 else zBA text r (acc++s.data.toList)
theorem concat_stop {text:Nat} {ss:List ByteArray} {k:Nat} {s:ByteArray} {acc:List UInt8} (h:ss[k]? =some s) (hl:(text:Int)-acc.length<s.size):zBA text (ss.drop k) acc=errG 7:=by
 obtain⟨hk,rfl⟩:=List.getElem?_eq_some_iff.1 h
 rw[List.drop_eq_getElem_cons hk,zBA,if_pos hl]
theorem concat_step {text:Nat} {ss:List ByteArray} {k:Nat} {s:ByteArray} {acc:List UInt8} (h:ss[k]? =some s) (hl: ¬ (text:Int)-acc.length<s.size):zBA text (ss.drop k) acc=zBA text (ss.drop (k+1)) (acc++s.data.toList):=by
 obtain⟨hk,rfl⟩:=List.getElem?_eq_some_iff.1 h
 rw[List.drop_eq_getElem_cons hk,zBA,if_neg hl]
theorem byteCells_app (a:List UInt8) (s:ByteArray):Lib.byteCells a++Lib.strCells s=Lib.byteCells (a++s.data.toList):=by
 rw[Lib.strCells_eq,Lib.byteCells,Lib.byteCells,Lib.byteCells,List.map_append]
theorem more_again {W w':World} {l:List Obj} {q B:Nat} (hB:W.heap.size=B) (h:Below B (more W l q) w'):∃ l' q',w'=more W l' q':=by
 subst hB
 exact zA0 ((zAi (Nat.le_refl _)).trans h)
theorem len_more {B b:Nat} {acc:List UInt8} {W:World} {l:List Obj} {p q x m:Nat} (hm:acc.length=m) (h:Lib.IsBuilder 280 5 B b (Lib.byteCells acc) (more W l p)) :
  Calls Tryz.prog 256 #[.pointer (some ⟨b,0,none⟩)] (more W l (q+x)) fun e w'=>e=.returned (.int .i64 (m:Nat))/\∃ n,w'=more W l (q+n):=by
 subst hm
 have h1:=Tryz.Builder_Len B b (Lib.byteCells acc) (more W l (q+x)) h
 refine h1.mono ?_
 rintro e w' ⟨rfl,rfl⟩
 exact⟨by simp[Lib.byteCells],_,rfl⟩
theorem write_more {b:Nat} {acc:List UInt8} {W:World} {l:List Obj} {p q m:Nat} (hm:acc.length=m) (hB:W.heap.size=b) (s:ByteArray) (hsz:m+s.size<=140737488355328) (h:Lib.IsBuilder 280 5 b b (Lib.byteCells acc) (more W l p)) :
  Calls Tryz.prog 257 #[.pointer (some ⟨b,0,none⟩),.string s] (more W l q) fun e w'=>e=.returned (.tuple #[.int .i64 s.size,.nilIface])/\∃ l' q',w'=more W l' q'/\Lib.IsBuilder 280 5 b b (Lib.byteCells (acc++s.data.toList)) (more W l' q'):=by
 subst hm
 have hbl:(Lib.byteCells acc).length=acc.length:=by simp[Lib.byteCells]
 refine(write_string b b (Lib.byteCells acc) s (more W l q) h (by rw[hbl];exact hsz) (by simp;omega)).mono ?_
 rintro e w' ⟨rfl,h1,hb⟩
 obtain⟨l',q',rfl⟩:=more_again hB hb
 rw[byteCells_app] at h1
 exact⟨rfl,l',q',rfl,.inr h1⟩
theorem string_more {b:Nat} {acc:List UInt8} {W:World} {l:List Obj} {p q:Nat} (hB:W.heap.size=b) (h:Lib.IsBuilder 280 5 b b (Lib.byteCells acc) (more W l p)) :
  Calls Tryz.prog 258 #[.pointer (some ⟨b,0,none⟩)] (more W l q) fun e w'=>e=.returned (.string ⟨acc.toArray⟩)/\∃ l' q',w'=more W l' q':=by
 refine(Tryz.Builder_String_any b b acc (more W l q) h (by simp;omega)).mono ?_
 rintro e w' ⟨rfl,hb⟩
 exact⟨rfl,more_again hB hb⟩
theorem texts_concat (gs c1:Nat) (ss:List ByteArray) (hss:ss.length<=1000) (nv:Value) (text:Nat) (ht:text<=100000) (w:World) (hl:gs<w.heap.size)
  (h:∀ j s,ss[j]? =some s->w.cell? ⟨gs,j,none⟩=some (.string s)) :
  Rt 194 #[.agg #[.slice (some ⟨gs,0,none⟩) ss.length c1,nv,.int .i64 text]] w (vG (zBA text ss [])):=by
 obtain⟨n,hn⟩:∃ n,ss.length=n:=⟨_,rfl⟩
 have HN:=zh hn
 have HC:=zh h
 rw[hn] at hss ⊢
 clear hn h
 obtain⟨R,hR⟩:∃ R,zBA text ss []=R:=⟨_,rfl⟩
 have HR:=zh hR
 rw[hR]
 clear hR
 have hl1:gs<w.heap.size+1:=by omega
 have hl2:gs<w.heap.size+1+1:=by omega
 go_enter Tryz.func194,Tryz.ntmps194
 go_wp2
 go_loopw [9] (fun u wr=>∃ k:Nat,∃ acc:List UInt8,k<=n/\u=.int .i64 k/\acc.length<=text/\zBA text (ss.drop k) acc=R/\Below ((w.alloc (.cells #[.slice (some ⟨gs,0,none⟩) n c1,nv,.int .i64 text] 209)).alloc zObj).heap.size ((w.alloc (.cells #[.slice (some ⟨gs,0,none⟩) n c1,nv,.int .i64 text] 209)).alloc zObj) wr/\Lib.IsBuilder 280 5 (w.heap.size+1+1) (w.heap.size+1+1) (Lib.byteCells acc) wr) (fun u _=>n-(intOf u).toNat)
 case atStart=>exact⟨0,[],Nat.zero_le _,rfl,Nat.zero_le _,HR.out,bel,by have:=Lib.fresh_isBuilder 280 5 ((w.alloc (.cells #[.slice (some ⟨gs,0,none⟩) n c1,nv,.int .i64 text] 209)).alloc zObj);simpa [Lib.byteCells] using this⟩
 case round =>
  obtain⟨k,acc,hk,rfl,ha,hrest,hB,hb⟩:=hrel
  obtain⟨l0,q0,rfl⟩:=zA0 hB
  have HBU:=zh hb
  have HRE:=zh hrest
  have hbl:(Lib.byteCells acc).length=acc.length:=by simp[Lib.byteCells]
  clear hb hrest hB
  by_cases hlt:k<n
  ·obtain⟨s,hs⟩:∃ s,ss[k]? =some s:=⟨_,List.getElem?_eq_getElem (show k<ss.length by have:=HN.out;omega)⟩
   have c0:=HC.out k s hs
   obtain⟨m,hm⟩:∃ m,acc.length=m:=⟨_,rfl⟩
   rw[hm] at ha
   by_cases hlong:(text:Int)-m<s.size
   ·have hw1:IntKind.i64.wrap ((text:Int)-m)=(text:Int)-m:=by rw[IntKind.wrap_i64];omega
    have hres:R=errG 7:=by rw[<- HRE.out];exact concat_stop hs (by rw[hm];exact hlong)
    clear hs
    subst hres
    go_wp2_with fail
    go_quiet (first|(go_at_call 256;exact len_more hm HBU.out))
    go_wp2_with(go_at_call 21;refine mB (zA3 _ _) ?_;intro l1 m1)
    all_goals go_returns
    all_goals exact⟨rfl,bel⟩
   ·have hw1:IntKind.i64.wrap ((text:Int)-m)=(text:Int)-m:=by rw[IntKind.wrap_i64];omega
    have hnext:=HRE.out
    rw[concat_step hs (by rw[hm];exact hlong)] at hnext
    have HNX:=zh hnext
    have HAL:Hid ((acc++s.data.toList).length<=text):=zh (by rw[List.length_append,hm,Array.length_toList];have:s.data.size=s.size:=rfl;omega)
    have hsz:m+s.size<=140737488355328:=by omega
    clear hs hnext
    go_wp2_with fail
    go_quiet (first|(go_at_call 256;exact len_more hm HBU.out))
    go_wp2_with(go_at_call 257;refine(write_more hm (by simp) s hsz HBU.out).mono ?_;rintro e w1 ⟨rfl,l1,q1,rfl,h1⟩;have HB1:=zh h1;clear h1)
    go_roundw
    case rel=>exact⟨k+1,acc++s.data.toList,by omega,by go_num,HAL.out,HNX.out,bel,HB1.out⟩
    case measure=>simp[intOf];omega
  ·obtain rfl:k=n:=by omega
   have hres:=HRE.out
   rw[List.drop_of_length_le (by have:=HN.out;omega),zBA] at hres
   rw[<- hres]
   go_wp2_with fail
   go_region_with (first|(go_at_call 258;refine(string_more (by simp) HBU.out).mono ?_;rintro e w1 ⟨rfl,l1,q1,rfl⟩)|(go_at_call 250;refine mB (zBS _ _ _ _ _) ?_;intro l2 m2))
   all_goals go_wp2
   all_goals go_returns
   all_goals exact⟨rfl,bel⟩
def MaxL (w:World):Prop:=∃ m,w.cell? ⟨2,0,none⟩=some (.int .i64 m)
theorem MaxL.below {w w':World} (h:MaxL w) (hb:Below w.heap.size w w'):MaxL w':=by
 obtain⟨m,hm⟩:=h
 exact⟨m,(hb.cell (p:=⟨2,0,none⟩) (World.block_lt_of_cell? w _ hm)).trans hm⟩
theorem cut_more (l t:List UInt8) (w:World) (hm:MaxL w) (hl:l.length<4294967281) :
  Calls Tryz.prog 255 #[.string ⟨l.toArray⟩,.string ⟨t.toArray⟩] w fun e w'=>e=.returned (.tuple #[.string ⟨(Lib.cut l t).1.toArray⟩,.string ⟨(Lib.cut l t).2.1.toArray⟩,.bool (Lib.cut l t).2.2])/\∃ n,w'=w.drewN n:=by
 obtain⟨m,hm⟩:=hm
 exact Tryz.strings_Cut ⟨l.toArray⟩ ⟨t.toArray⟩ m w hl hm
theorem cut_fst_le (l t:List UInt8):(Lib.cut l t).1.length<=l.length:=by
 unfold Lib.cut
 split
 ·simp;omega
 ·simp
theorem cut_rest_lt (l t:List UInt8) (ht:t≠[]) (h:(Lib.cut l t).2.2=true):(Lib.cut l t).2.1.length<l.length:=by
 unfold Lib.cut at h ⊢
 split at h
 ·rename_i h0
  rw[if_pos h0]
  have h1:=Lib.index_room l t h0
  have h2:=List.length_pos_iff.2 ht
  simp only[List.length_drop]
  omega
 ·cases h
theorem write_list {b:Nat} {acc:List UInt8} {W:World} {l:List Obj} {p q m:Nat} (hm:acc.length=m) (hB:W.heap.size=b) (x:List UInt8) (hsz:m+(⟨x.toArray⟩:ByteArray).size<=140737488355328) (h:Lib.IsBuilder 280 5 b b (Lib.byteCells acc) (more W l p)) :
  Calls Tryz.prog 257 #[.pointer (some ⟨b,0,none⟩),.string ⟨x.toArray⟩] (more W l q) fun e w'=>e=.returned (.tuple #[.int .i64 (⟨x.toArray⟩:ByteArray).size,.nilIface])/\∃ l' q',w'=more W l' q'/\Lib.IsBuilder 280 5 b b (Lib.byteCells (acc++x)) (more W l' q') :=
 write_more hm hB ⟨x.toArray⟩ hsz h
def substGo (text:Nat) (t u:List UInt8):Nat->List UInt8->List UInt8->V
 | 0,_,_=>errG 7
 | f+1,l,acc =>
   if text<acc.length+(Lib.cut l t).1.length then errG 7
   else if (Lib.cut l t).2.2=false then toldX text ⟨(acc++(Lib.cut l t).1).toArray⟩
   else if text<(acc++(Lib.cut l t).1++u).length then errG 7
   else substGo text t u f (Lib.cut l t).2.1 (acc++(Lib.cut l t).1++u)
def substX (text:Nat) (s t u:ByteArray):V:=if t.data.toList=[] then errG 8 else substGo text t.data.toList u.data.toList (s.size+1) s.data.toList []
def strLen:Value->Nat
 | .string s=>s.size
 | _=>0
theorem mk_data (s:ByteArray):(⟨s.data.toList.toArray⟩:ByteArray)=s:=by cases s;simp
theorem texts_subst (gs c1:Nat) (s t u:ByteArray) (hs:s.size<=1048576) (hu:u.size<=1048576) (nv:Value) (text:Nat) (ht:text<=100000) (w:World) (hM:MaxL w) (h0:w.cell? ⟨gs,0,none⟩=some (.string s)) (h1:w.cell? ⟨gs,1,none⟩=some (.string t)) (h2:w.cell? ⟨gs,2,none⟩=some (.string u)) :
  Rt 192 #[.agg #[.slice (some ⟨gs,0,none⟩) 3 c1,nv,.int .i64 text]] w (vG (substX text s t u)):=by
 have hl:=cltK h0
 have hl1:gs<w.heap.size+1:=by omega
 have hl2:gs<w.heap.size+1+1:=by omega
 unfold substX
 by_cases hte:t.data.toList=[]
 ·rw[if_pos hte]
  obtain rfl:t=⟨#[]⟩:=by
   rw[<- mk_data t,hte]
  clear hte
  go_enter Tryz.func192,Tryz.ntmps192
  go_wp2_with fail
  go_quiet (fail)
  go_wp2_with(go_at_call 21;refine mB (zA3 _ _) ?_;intro l1 m1)
  all_goals go_returns
  all_goals exact⟨rfl,bel⟩
 ·rw[if_neg hte]
  obtain⟨R,hR⟩:∃ R,substGo text t.data.toList u.data.toList (s.size+1) s.data.toList []=R:=⟨_,rfl⟩
  rw[hR]
  obtain⟨ls,hls⟩:∃ l,s.data.toList=l:=⟨_,rfl⟩
  obtain⟨lt,hlt⟩:∃ l,t.data.toList=l:=⟨_,rfl⟩
  obtain⟨lu,hlu⟩:∃ l,u.data.toList=l:=⟨_,rfl⟩
  have hs1:s.size=ls.length:=by rw[<- hls,Array.length_toList];rfl
  have hu1:u.size=lu.length:=by rw[<- hlu,Array.length_toList];rfl
  have hs2:s=⟨ls.toArray⟩:=by rw[<- hls,mk_data]
  have ht2:t=⟨lt.toArray⟩:=by rw[<- hlt,mk_data]
  have hu2:u=⟨lu.toArray⟩:=by rw[<- hlu,mk_data]
  rw[hls,hlt,hlu,hs1] at hR
  rw[hlt] at hte
  rw[hs1] at hs
  rw[hu1] at hu
  subst hs2
  subst ht2
  subst hu2
  have hie:lt.isEmpty=false:=by
   cases lt with
   | nil=>exact absurd rfl hte
   | cons a r=>rfl
  clear hls hlt hlu hs1 hu1
  have HR:=zh hR
  have HT:=zh hte
  have HMX:=zh hM
  clear hR hte hM
  go_enter Tryz.func192,Tryz.ntmps192
  go_wp2_with fail
  go_quiet (fail)
  go_wp2_with fail
  go_loopw [3] (fun v wr=>∃ f:Nat,∃ l acc:List UInt8,v=.string ⟨l.toArray⟩/\l.length<f/\l.length<=1048576/\acc.length<=text/\substGo text lt lu f l acc=R/\Below ((w.alloc (.cells #[.slice (some ⟨gs,0,none⟩) 3 c1,nv,.int .i64 text] 209)).alloc zObj).heap.size ((w.alloc (.cells #[.slice (some ⟨gs,0,none⟩) 3 c1,nv,.int .i64 text] 209)).alloc zObj) wr/\Lib.IsBuilder 280 5 (w.heap.size+1+1) (w.heap.size+1+1) (Lib.byteCells acc) wr) (fun v _=>strLen v)
  case atStart=>exact⟨ls.length+1,ls,[],rfl,Nat.lt_succ_self _,hs,Nat.zero_le _,HR.out,bel,by have:=Lib.fresh_isBuilder 280 5 ((w.alloc (.cells #[.slice (some ⟨gs,0,none⟩) 3 c1,nv,.int .i64 text] 209)).alloc zObj);simp[Lib.byteCells] at this ⊢;exact this⟩
  case round =>
   obtain⟨f,l,acc,rfl,hf,hlen,ha,hrest,hB,hb⟩:=hrel
   obtain⟨f,rfl⟩:∃ k,f=k+1:=⟨f-1,by omega⟩
   have hMr:MaxL wr:=(HMX.out.below (bel:Below w.heap.size w _)).below hB
   obtain⟨l0,q0,rfl⟩:=zA0 hB
   have HBU:=zh hb
   have HRE:=zh hrest
   have HMR:=zh hMr
   obtain⟨m,hm⟩:∃ m,acc.length=m:=⟨_,rfl⟩
   rw[hm] at ha
   clear hb hrest hB hMr
   obtain⟨bf,hbf⟩:∃ x,(Lib.cut l lt).1=x:=⟨_,rfl⟩
   obtain⟨af,haf⟩:∃ x,(Lib.cut l lt).2.1=x:=⟨_,rfl⟩
   obtain⟨fo,hfo⟩:∃ x,(Lib.cut l lt).2.2=x:=⟨_,rfl⟩
   have hbl:=cut_fst_le l lt
   rw[hbf] at hbl
   obtain⟨k,hk⟩:∃ k,bf.length=k:=⟨_,rfl⟩
   rw[hk] at hbl
   have HCT:=zh (cut_more l lt)
   rw[hbf,haf,hfo] at HCT
   have hR:=HRE.out
   rw[substGo,hbf,haf,hfo,hm,hk] at hR
   have hbs:(⟨bf.toArray⟩:ByteArray).size=k:=hk
   by_cases hlong:text<m+k
   ·rw[if_pos hlong] at hR
    subst hR
    have hlongI:(text:Int)<(m:Int)+(k:Int):=by omega
    have hw1:IntKind.i64.wrap ((m:Int)+(k:Int))=(m:Int)+k:=by rw[IntKind.wrap_i64];omega
    clear hbf haf hfo hlong hk
    go_wp2_with(go_at_call 255;refine(HCT.out _ HMR.out (by omega)).mono ?_;rintro e w1 ⟨rfl,n1,rfl⟩)
    go_quiet (first|(go_at_call 256;exact len_more hm HBU.out))
    go_wp2_with(go_at_call 21;refine mB (zA3 _ _) ?_;intro l1 m1)
    all_goals go_returns
    all_goals exact⟨rfl,bel⟩
   ·rw[if_neg hlong] at hR
    have hlongI: ¬ (text:Int)<(m:Int)+(k:Int):=by omega
    have hw1:IntKind.i64.wrap ((m:Int)+(k:Int))=(m:Int)+k:=by rw[IntKind.wrap_i64];omega
    have hz1:m+(⟨bf.toArray⟩:ByteArray).size<=140737488355328:=by omega
    have hm1:(acc++bf).length=m+k:=by rw[List.length_append,hm,hk]
    cases fo with
    | false =>
      rw[if_pos rfl] at hR
      clear hbf haf hfo hlong hk
      go_wp2_with(go_at_call 255;refine(HCT.out _ HMR.out (by omega)).mono ?_;rintro e w1 ⟨rfl,n1,rfl⟩)
      go_quiet (first|(go_at_call 256;exact len_more hm HBU.out))
      go_wp2_with(go_at_call_of 257 (Value.string ⟨bf.toArray⟩);refine(write_list hm (by simp) bf hz1 HBU.out).mono ?_;rintro e w1 ⟨rfl,l1,q1,rfl,h1⟩;have HB1:=zh h1;clear h1)
      go_wp2_with fail
      go_region_with (first|(go_at_call 258;refine(string_more (by simp) HB1.out).mono ?_;rintro e w2 ⟨rfl,l2,q2,rfl⟩)|(go_at_call 250;refine mB (zBS _ _ _ _ _) ?_;intro l3 m3))
      all_goals go_wp2
      all_goals go_returns
      all_goals exact⟨rfl,bel⟩
    | true =>
      rw[if_neg (by decide),List.length_append,hm1] at hR
      obtain⟨g,hg⟩:∃ g,lu.length=g:=⟨_,rfl⟩
      rw[hg] at hR
      have hrl:=cut_rest_lt l lt HT.out hfo
      rw[haf] at hrl
      have hus:(⟨lu.toArray⟩:ByteArray).size=g:=hg
      have hz2:m+k+(⟨lu.toArray⟩:ByteArray).size<=140737488355328:=by omega
      have hm2:(acc++bf++lu).length=m+k+g:=by rw[List.length_append,hm1,hg]
      clear hbf haf hfo hlong hk
      by_cases hlong2:text<m+k+g
      ·rw[if_pos hlong2] at hR
       subst hR
       have hlongI2:(text:Int)<((m+k+g:Nat):Int):=by omega
       go_wp2_with(go_at_call 255;refine(HCT.out _ HMR.out (by omega)).mono ?_;rintro e w1 ⟨rfl,n1,rfl⟩)
       go_quiet (first|(go_at_call 256;exact len_more hm HBU.out))
       go_wp2_with(go_at_call_of 257 (Value.string ⟨bf.toArray⟩);refine(write_list hm (by simp) bf hz1 HBU.out).mono ?_;rintro e w1 ⟨rfl,l1,q1,rfl,h1⟩;have HB1:=zh h1;clear h1)
       go_wp2_with(go_at_call_of 257 (Value.string ⟨lu.toArray⟩);refine(write_list hm1 (by simp) lu hz2 HB1.out).mono ?_;rintro e w1 ⟨rfl,l2,q2,rfl,h1⟩;have HB2:=zh h1;clear h1)
       go_quiet (first|(go_at_call 256;exact len_more hm2 HB2.out))
       go_wp2_with(go_at_call 21;refine mB (zA3 _ _) ?_;intro l3 m3)
       all_goals go_returns
       all_goals exact⟨rfl,bel⟩
      ·rw[if_neg hlong2] at hR
       have hlongI2: ¬ (text:Int)<((m+k+g:Nat):Int):=by omega
       have HNX:=zh hR
       clear hR
       go_wp2_with(go_at_call 255;refine(HCT.out _ HMR.out (by omega)).mono ?_;rintro e w1 ⟨rfl,n1,rfl⟩)
       go_quiet (first|(go_at_call 256;exact len_more hm HBU.out))
       go_wp2_with(go_at_call_of 257 (Value.string ⟨bf.toArray⟩);refine(write_list hm (by simp) bf hz1 HBU.out).mono ?_;rintro e w1 ⟨rfl,l1,q1,rfl,h1⟩;have HB1:=zh h1;clear h1)
       go_wp2_with(go_at_call_of 257 (Value.string ⟨lu.toArray⟩);refine(write_list hm1 (by simp) lu hz2 HB1.out).mono ?_;rintro e w1 ⟨rfl,l2,q2,rfl,h1⟩;have HB2:=zh h1;clear h1)
       go_quiet (first|(go_at_call 256;exact len_more hm2 HB2.out))
       go_wp2_with fail
       go_roundw
       case rel=>exact⟨f,af,acc++bf++lu,rfl,by omega,by omega,by omega,HNX.out,bel,HB2.out⟩
       case measure=>exact hrl
theorem index_any (s t:ByteArray) (w:World) (hm:MaxL w) (hl:s.size<4294967281) :
  Calls Tryz.prog 254 #[.string s,.string t] w fun e w'=>e=.returned (.int .i64 (Lib.index s.data.toList t.data.toList))/\w'=w:=by
 obtain⟨m,hm⟩:=hm
 exact Tryz.strings_Index s t m w hl hm
theorem index_quiet {args:Array Value} {v:Value} {w w0:World} (h:Calls Tryz.prog 254 args w fun e w'=>e=.returned v/\w'=w) (hw:∃ n,w=w0.drewN n):Calls Tryz.prog 254 args w fun e w'=>e=.returned v/\∃ n,w'=w0.drewN n:=by
 obtain⟨n,rfl⟩:=hw
 refine h.mono ?_
 rintro e w' ⟨rfl,rfl⟩
 exact⟨rfl,n,rfl⟩
def placeX (s t:ByteArray) (n:Int):V :=
 if n<1 then errG 8 else if (t.size:Int)+1<n then errG 6
 else if Lib.index (t.extract (n-1).toNat t.size).data.toList s.data.toList<0 then errG 6
 else wholeT (n+Lib.index (t.extract (n-1).toNat t.size).data.toList s.data.toList)
theorem index_le (s t:List UInt8):Lib.index s t<=s.length:=by
 by_cases h:0<=Lib.index s t
 ·have:=Lib.index_room s t h
  omega
 ·omega
theorem texts_place0 (gs c1 c2:Nat) (A:Option Addr) (s t:ByteArray) (ht:t.size<=1048576) (text:Int) (w:World) (hM:MaxL w) (h0:w.cell? ⟨gs,0,none⟩=some (.string s)) (h1:w.cell? ⟨gs,1,none⟩=some (.string t)) :
  Rt 191 #[.agg #[.slice (some ⟨gs,0,none⟩) 2 c1,.slice A 0 c2,.int .i64 text]] w (vG (placeX s t 1)):=by
 have hl:=cltK h0
 have hl1:gs<w.heap.size+1:=by omega
 have hl2:gs<w.heap.size+1+1:=by omega
 have HMX:=zh hM
 clear hM
 obtain⟨R,hR⟩:∃ R,placeX s t 1=R:=⟨_,rfl⟩
 rw[hR]
 unfold placeX at hR
 rw[if_neg (by decide)] at hR
 have hw1:IntKind.i64.wrap ((t.size:Int)+1)=(t.size:Int)+1:=by rw[IntKind.wrap_i64];omega
 have hhigh: ¬ (t.size:Int)+1<1:=by omega
 rw[if_neg hhigh] at hR
 obtain⟨d,hd⟩:∃ d:Nat,d=0:=⟨_,rfl⟩
 rw[show ((1:Int)-1).toNat=0 from rfl] at hR
 clear hd
 obtain⟨u,hu⟩:∃ u,t.extract 0 t.size=u:=⟨_,rfl⟩
 have hus:u.size<=t.size:=by rw[<- hu];simp
 rw[hu] at hR
 obtain⟨z,hz⟩:∃ z,Lib.index u.data.toList s.data.toList=z:=⟨_,rfl⟩
 have HIX:=zh (fun w h=>index_any u s w h (by omega))
 rw[hz] at hR HIX
 have hzl:=index_le u.data.toList s.data.toList
 rw[hz,show u.data.toList.length=u.size by rw[Array.length_toList];rfl] at hzl
 by_cases hneg:z<0
 ·rw[if_pos hneg] at hR
  subst hR
  clear hz
  go_enter Tryz.func191,Tryz.ntmps191
  go_wp2_with fail
  go_quiet (first|(go_at_call 254;exact index_quiet (HIX.out _ (HMX.out.below bel)) ⟨_,rfl⟩))
  go_wp2_with(go_at_call 21;refine mB (zA3 _ _) ?_;intro l1 m1)
  all_goals go_returns
  all_goals exact⟨rfl,bel⟩
 ·rw[if_neg hneg] at hR
  obtain⟨i,rfl⟩:∃ i:Nat,z=(i:Int):=⟨z.toNat,by omega⟩
  have hws:IntKind.i64.wrap ((1:Int)+(i:Int))=(1:Int)+(i:Int):=by rw[IntKind.wrap_i64];omega
  have HW:=zh (show Is64 ((1:Int)+(i:Int)) from ⟨by omega,by omega⟩)
  subst hR
  clear hz
  go_enter Tryz.func191,Tryz.ntmps191
  go_wp2_with fail
  go_quiet (first|(go_at_call 254;exact index_quiet (HIX.out _ (HMX.out.below bel)) ⟨_,rfl⟩))
  go_wp2_with(go_at_call 181;refine mB (texts_whole _ HW.out _) ?_;intro l1 m1)
  all_goals go_returns
  all_goals exact⟨rfl,bel⟩
theorem texts_place1 (gs c1 c2:Nat) (gn:Nat) (n:Int) (hn:Is64 n) (s t:ByteArray) (ht:t.size<=1048576) (text:Int) (w:World) (hM:MaxL w) (h0:w.cell? ⟨gs,0,none⟩=some (.string s)) (h1:w.cell? ⟨gs,1,none⟩=some (.string t)) (hc:w.cell? ⟨gn,0,none⟩=some (.int .i64 n)) :
  Rt 191 #[.agg #[.slice (some ⟨gs,0,none⟩) 2 c1,.slice (some ⟨gn,0,none⟩) 1 c2,.int .i64 text]] w (vG (placeX s t n)):=by
 have hl:=cltK h0
 have hl1:gs<w.heap.size+1:=by omega
 have hl2:gs<w.heap.size+1+1:=by omega
 have HMX:=zh hM
 clear hM
 have hln:=cltK hc
 have hln1:gn<w.heap.size+1:=by omega
 have hln2:gn<w.heap.size+1+1:=by omega
 unfold Is64 at hn
 obtain⟨R,hR⟩:∃ R,placeX s t n=R:=⟨_,rfl⟩
 rw[hR]
 unfold placeX at hR
 by_cases hlow:n<1
 ·rw[if_pos hlow] at hR
  subst hR
  go_enter Tryz.func191,Tryz.ntmps191
  go_wp2_with(go_at_call 21;refine mB (zA3 _ _) ?_;intro l1 m1)
  all_goals go_returns
  all_goals exact⟨rfl,bel⟩
 rw[if_neg hlow] at hR
 have hw1:IntKind.i64.wrap ((t.size:Int)+1)=(t.size:Int)+1:=by rw[IntKind.wrap_i64];omega
 by_cases hhigh:(t.size:Int)+1<n
 ·rw[if_pos hhigh] at hR
  subst hR
  go_enter Tryz.func191,Tryz.ntmps191
  go_wp2_with(go_at_call 21;refine mB (zA3 _ _) ?_;intro l1 m1)
  all_goals go_returns
  all_goals exact⟨rfl,bel⟩
 rw[if_neg hhigh] at hR
 obtain⟨d,hd⟩:∃ d:Int,n-1=d:=⟨_,rfl⟩
 have hw2:IntKind.i64.wrap d=d:=by rw[IntKind.wrap_i64];omega
 rw[hd] at hR
 obtain⟨u,hu⟩:∃ u,t.extract d.toNat t.size=u:=⟨_,rfl⟩
 have hd0:(0:Int)<=d:=by omega
 have hd2:d<=(t.size:Int):=by omega
 have hus:u.size<=t.size:=by rw[<- hu];simp
 rw[hu] at hR
 obtain⟨z,hz⟩:∃ z,Lib.index u.data.toList s.data.toList=z:=⟨_,rfl⟩
 have HIX:=zh (fun w h=>index_any u s w h (by omega))
 rw[hz] at hR HIX
 have hzl:=index_le u.data.toList s.data.toList
 rw[hz,show u.data.toList.length=u.size by rw[Array.length_toList];rfl] at hzl
 by_cases hneg:z<0
 ·rw[if_pos hneg] at hR
  subst hR
  clear hz
  go_enter Tryz.func191,Tryz.ntmps191
  go_wp2_with fail
  go_quiet (first|(go_at_call 254;exact index_quiet (HIX.out _ (HMX.out.below bel)) ⟨_,rfl⟩))
  go_wp2_with(go_at_call 21;refine mB (zA3 _ _) ?_;intro l1 m1)
  all_goals go_returns
  all_goals exact⟨rfl,bel⟩
 ·rw[if_neg hneg] at hR
  obtain⟨i,rfl⟩:∃ i:Nat,z=(i:Int):=⟨z.toNat,by omega⟩
  have hws:IntKind.i64.wrap (n+(i:Int))=n+(i:Int):=by rw[IntKind.wrap_i64];omega
  have HW:=zh (show Is64 (n+(i:Int)) from ⟨by omega,by omega⟩)
  subst hR
  clear hz
  go_enter Tryz.func191,Tryz.ntmps191
  go_wp2_with fail
  go_quiet (first|(go_at_call 254;exact index_quiet (HIX.out _ (HMX.out.below bel)) ⟨_,rfl⟩))
  go_wp2_with(go_at_call 181;refine mB (texts_whole _ HW.out _) ?_;intro l1 m1)
  all_goals go_returns
  all_goals exact⟨rfl,bel⟩
end Go.Proofs.YtppghgnhlgoagaaGreatDoor
