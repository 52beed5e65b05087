/- Parts. -/
import Derived.Test.YtnccknhbplaieaaGreatDoorC22
import Derived.Test.YtnccknhbplaieaaGreatDoorC20
set_option linter.all false
set_option maxRecDepth 100000
set_option maxHeartbeats 4000000
namespace Go.Proofs.YtnccknhbplaieaaGreatDoor
open Go Go.RowKit Go.Proofs.Tryz
open Go.Lib renaming hid->zh
open Go.IntKind renaming wrap_i64->Q3,i64->Q4
open _root_.List renaming length_append->Q5,getElem?_eq_some_iff->Q7,drop_eq_getElem_cons->Q8
open _root_.Nat renaming zero_le->Q9
def zBO (text:Nat):List ByteArray->List UInt8->V
 | [],acc=>toldX text ⟨acc.toArray⟩
 | s::r,acc=>if (text:Int)-acc.length<s.size then errG 7 else zBO text r (acc++s.data.toList)
theorem concat_stop {text:Nat} {ss:List ByteArray} {k:Nat} {s:ByteArray} {acc:List UInt8} (h:ss[k]? =some s) (hl:(text:Int)-acc.length<s.size):zBO text (ss.drop k) acc=errG 7:=by
 obtain⟨hk,rfl⟩:=Q7.1 h;rw[Q8 hk,zBO,if_pos hl]
theorem concat_step {text:Nat} {ss:List ByteArray} {k:Nat} {s:ByteArray} {acc:List UInt8} (h:ss[k]? =some s) (hl: ¬ (text:Int)-acc.length<s.size):zBO text (ss.drop k) acc=zBO text (ss.drop (k+1)) (acc++s.data.toList):=by
 obtain⟨hk,rfl⟩:=Q7.1 h;rw[Q8 hk,zBO,if_neg hl]
theorem byteCells_app (a:List UInt8) (s:ByteArray):Lib.byteCells a++Lib.strCells s=Lib.byteCells (a++s.data.toList):=by
 rw[Lib.strCells_eq,Lib.byteCells,Lib.byteCells,Lib.byteCells,List.map_append]
theorem more_again {W w':World} {l:List Obj} {q B:Nat} (hB:W.heap.size=B) (h:Below B (more W l q) w'):∃ l' q',w'=more W l' q':=by
 subst hB;exact zA0 ((zAf (Nat.le_refl _)).trans h)
theorem len_more {B b:Nat} {acc:List UInt8} {W:World} {l:List Obj} {p q x m:Nat} (hm:acc.length=m) (h:Lib.IsBuilder 246 5 B b (Lib.byteCells acc) (more W l p)) :
  Calls prog 287 #[.pointer (some ⟨b,0,none⟩)] (more W l (q+x)) fun e w'=>e=.returned (.int .i64 (m:Nat))/\∃ n,w'=more W l (q+n):=by
 subst hm;have h1:=Tryz.Builder_Len B b (Lib.byteCells acc) (more W l (q+x)) h;refine h1.mono ?_;rintro e w' ⟨rfl,rfl⟩;exact⟨by simp[Lib.byteCells],_,rfl⟩
theorem write_more {b:Nat} {acc:List UInt8} {W:World} {l:List Obj} {p q m:Nat} (hm:acc.length=m) (hB:W.heap.size=b) (s:ByteArray) (hsz:m+s.size<=140737488355328) (h:Lib.IsBuilder 246 5 b b (Lib.byteCells acc) (more W l p)) :
  Calls prog 288 #[.pointer (some ⟨b,0,none⟩),.string s] (more W l q) fun e w'=>e=.returned (.tuple #[.int .i64 s.size,.nilIface])/\∃ l' q',w'=more W l' q'/\Lib.IsBuilder 246 5 b b (Lib.byteCells (acc++s.data.toList)) (more W l' q'):=by
 subst hm;have ha:(Lib.byteCells acc).length=acc.length:=by simp[Lib.byteCells]
 refine(write_string b b (Lib.byteCells acc) s (more W l q) h (by rw[ha];exact hsz) (by simp;omega)).mono ?_;rintro e w' ⟨rfl,h1,hb⟩;obtain⟨l',q',rfl⟩:=more_again hB hb;rw[byteCells_app] at h1;exact⟨rfl,l',q',rfl,.inr h1⟩
theorem string_more {b:Nat} {acc:List UInt8} {W:World} {l:List Obj} {p q:Nat} (hB:W.heap.size=b) (h:Lib.IsBuilder 246 5 b b (Lib.byteCells acc) (more W l p)) :
  Calls prog 289 #[.pointer (some ⟨b,0,none⟩)] (more W l q) fun e w'=>e=.returned (.string ⟨acc.toArray⟩)/\∃ l' q',w'=more W l' q':=by
 refine(Tryz.Builder_String_any b b acc (more W l q) h (by simp;omega)).mono ?_;rintro e w' ⟨rfl,hb⟩;exact⟨rfl,more_again hB hb⟩
theorem texts_concat (gs c1:Nat) (ss:List ByteArray) (hss:ss.length<=1000) (nv:Value) (text:Nat) (ht:text<=100000) (w:World) (hl:gs<w.heap.size)
  (h:∀ j s,ss[j]? =some s->w.cell? ⟨gs,j,none⟩=some (.string s)) :
  Rt 222 #[.agg #[.slice (some ⟨gs,0,none⟩) ss.length c1,nv,.int .i64 text]] w (vG (zBO text ss [])):=by
 obtain⟨n,hn⟩:=lt_ ss.length;have HN:=zh hn;have HC:=zh h;rw[hn] at hss ⊢;clear hn h;obtain⟨R,hR⟩:=lt_ (zBO text ss []);have HR:=zh hR;rw[hR];clear hR;have hl1:gs<w.heap.size+1:=by omega
 have hl2:gs<w.heap.size+1+1:=by omega
 go_enter func222,ntmps222;go_wp2
 go_loopw [9] (fun u wr=>∃ k:Nat,∃ acc:List UInt8,k<=n/\u=.int .i64 k/\acc.length<=text/\zBO text (ss.drop k) acc=R/\Below ((w.alloc (.cells #[.slice (some ⟨gs,0,none⟩) n c1,nv,.int .i64 text] 178)).alloc zObj).heap.size ((w.alloc (.cells #[.slice (some ⟨gs,0,none⟩) n c1,nv,.int .i64 text] 178)).alloc zObj) wr/\Lib.IsBuilder 246 5 (w.heap.size+1+1) (w.heap.size+1+1) (Lib.byteCells acc) wr) (fun u _=>n-(intOf u).toNat)
 case atStart=>exact⟨0,[],Q9 _,rfl,Q9 _,HR.out,bel,by have:=Lib.fresh_isBuilder 246 5 ((w.alloc (.cells #[.slice (some ⟨gs,0,none⟩) n c1,nv,.int .i64 text] 178)).alloc zObj);simpa [Lib.byteCells] using this⟩
 case round =>
  obtain⟨k,acc,hk,rfl,ha,he,hB,hb⟩:=hrel;obtain⟨l0,q0,rfl⟩:=zA0 hB;have hf:=zh hb;have hg:=zh he;have hbl:(Lib.byteCells acc).length=acc.length:=by simp[Lib.byteCells]
  clear hb he hB;by_cases hlt:k<n
  ·obtain⟨s,hs⟩:∃ s,ss[k]? =some s:=⟨_,List.getElem?_eq_getElem (show k<ss.length by have:=HN.out;omega)⟩
   have c0:=HC.out k s hs;obtain⟨m,hm⟩:=lt_ acc.length;rw[hm] at ha;by_cases hlong:(text:Int)-m<s.size
   ·have hp:Q4.wrap ((text:Int)-m)=(text:Int)-m:=by rw[Q3];omega
    have hd:R=errG 7:=by rw[<- hg.out];exact concat_stop hs (by rw[hm];exact hlong)
    clear hs;subst hd;go_wp2_with fail;go_quiet (first|(go_at_call 287;exact len_more hm hf.out));go_wp2_with(go_at_call 13;refine mB (zA3 _ _) ?_;intro l1 m1)
    all_goals(go_returns;exact rb_)
   ·have hp:Q4.wrap ((text:Int)-m)=(text:Int)-m:=by rw[Q3];omega
    have hc:=hg.out;rw[concat_step hs (by rw[hm];exact hlong)] at hc;have hj:=zh hc;have hh:Hid ((acc++s.data.toList).length<=text):=zh (by rw[Q5,hm,Array.length_toList];have:s.data.size=s.size:=rfl;omega);have ho:m+s.size<=140737488355328:=by omega
    clear hs hc;go_wp2_with fail;go_quiet (first|(go_at_call 287;exact len_more hm hf.out));go_wp2_with(go_at_call 288;refine(write_more hm (by simp) s ho hf.out).mono ?_;rintro e w1 ⟨rfl,l1,q1,rfl,h1⟩;have hi:=zh h1;clear h1)
    go_roundw;case rel=>exact⟨k+1,acc++s.data.toList,by omega,by go_num,hh.out,hj.out,bel,hi.out⟩
    case measure=>simp[intOf];omega
  ·obtain rfl:k=n:=by omega
   have hd:=hg.out;rw[List.drop_of_length_le (by have:=HN.out;omega),zBO] at hd;rw[<- hd];go_wp2_with fail;go_region_with (first|(go_at_call 289;refine(string_more (by simp) hf.out).mono ?_;rintro e w1 ⟨rfl,l1,q1,rfl⟩)|(go_at_call 281;refine mB (zBi _ _ _ _ _) ?_;intro l2 m2))
   all_goals go_wp2;all_goals(go_returns;exact rb_)
theorem cut_rest_lt (l t:List UInt8) (ht:t≠[]) (h:(Lib.cut l t).2.2=true):(Lib.cut l t).2.1.length<l.length:=by
 unfold Lib.cut at h ⊢;split at h
 ·rename_i h0;rw[if_pos h0];have h1:=Lib.index_room l t h0;have h2:=List.length_pos_iff.2 ht;simp only[List.length_drop];omega
 ·cases h
theorem write_list {b:Nat} {acc:List UInt8} {W:World} {l:List Obj} {p q m:Nat} (hm:acc.length=m) (hB:W.heap.size=b) (x:List UInt8) (hsz:m+(⟨x.toArray⟩:ByteArray).size<=140737488355328) (h:Lib.IsBuilder 246 5 b b (Lib.byteCells acc) (more W l p)) :
  Calls prog 288 #[.pointer (some ⟨b,0,none⟩),.string ⟨x.toArray⟩] (more W l q) fun e w'=>e=.returned (.tuple #[.int .i64 (⟨x.toArray⟩:ByteArray).size,.nilIface])/\∃ l' q',w'=more W l' q'/\Lib.IsBuilder 246 5 b b (Lib.byteCells (acc++x)) (more W l' q') :=
 write_more hm hB ⟨x.toArray⟩ hsz h
def substGo (text:Nat) (t u:List UInt8):Nat->List UInt8->List UInt8->V
 | 0,_,_=>errG 7
 | f+1,l,acc =>
   if text<acc.length+(Lib.cut l t).1.length then errG 7
   else if (Lib.cut l t).2.2=false then toldX text ⟨(acc++(Lib.cut l t).1).toArray⟩
   else if text<(acc++(Lib.cut l t).1++u).length then errG 7
   else substGo text t u f (Lib.cut l t).2.1 (acc++(Lib.cut l t).1++u)
def substX (text:Nat) (s t u:ByteArray):V:=if t.data.toList=[] then errG 8 else substGo text t.data.toList u.data.toList (s.size+1) s.data.toList []
def strLen:Value->Nat
 | .string s=>s.size
 | _=>0
theorem texts_subst (gs c1:Nat) (s t u:ByteArray) (hs:s.size<=1048576) (hu:u.size<=1048576) (nv:Value) (text:Nat) (ht:text<=100000) (w:World) (hM:MaxL w) (h0:w.cell? ⟨gs,0,none⟩=some (.string s)) (h1:w.cell? ⟨gs,1,none⟩=some (.string t)) (h2:w.cell? ⟨gs,2,none⟩=some (.string u)) :
  Rt 220 #[.agg #[.slice (some ⟨gs,0,none⟩) 3 c1,nv,.int .i64 text]] w (vG (substX text s t u)):=by
 have hl:=cltK h0;have hl1:gs<w.heap.size+1:=by omega
 have hl2:gs<w.heap.size+1+1:=by omega
 unfold substX;by_cases hte:t.data.toList=[]
 ·rw[if_pos hte];obtain rfl:t=⟨#[]⟩:=by
   rw[<- mk_data t,hte]
  clear hte;go_enter func220,ntmps220;go_wp2_with fail;go_quiet (fail);go_wp2_with(go_at_call 13;refine mB (zA3 _ _) ?_;intro l1 m1)
  all_goals(go_returns;exact rb_)
 ·rw[if_neg hte];obtain⟨R,hR⟩:=lt_ (substGo text t.data.toList u.data.toList (s.size+1) s.data.toList []);rw[hR];obtain⟨ls,hv⟩:=lt_ s.data.toList;obtain⟨lt,hw⟩:=lt_ t.data.toList;obtain⟨lu,hx⟩:=lt_ u.data.toList;have hz:s.size=ls.length:=by rw[<- hv,Array.length_toList];rfl
  have hG:u.size=lu.length:=by rw[<- hx,Array.length_toList];rfl
  have hN:s=⟨ls.toArray⟩:=by rw[<- hv,mk_data]
  have hO:t=⟨lt.toArray⟩:=by rw[<- hw,mk_data]
  have hP:u=⟨lu.toArray⟩:=by rw[<- hx,mk_data]
  rw[hv,hw,hx,hz] at hR;rw[hw] at hte;rw[hz] at hs;rw[hG] at hu;subst hN;subst hO;subst hP;have hie:lt.isEmpty=false:=by
   cases lt with
   | nil=>exact absurd rfl hte
   | cons a r=>rfl
  clear hv hw hx hz hG;have HR:=zh hR;have HT:=zh hte;have hI:=zh hM;clear hR hte hM;go_enter func220,ntmps220;go_wp2_with fail;go_quiet (fail);go_wp2_with fail
  go_loopw [3] (fun v wr=>∃ f:Nat,∃ l acc:List UInt8,v=.string ⟨l.toArray⟩/\l.length<f/\l.length<=1048576/\acc.length<=text/\substGo text lt lu f l acc=R/\Below ((w.alloc (.cells #[.slice (some ⟨gs,0,none⟩) 3 c1,nv,.int .i64 text] 178)).alloc zObj).heap.size ((w.alloc (.cells #[.slice (some ⟨gs,0,none⟩) 3 c1,nv,.int .i64 text] 178)).alloc zObj) wr/\Lib.IsBuilder 246 5 (w.heap.size+1+1) (w.heap.size+1+1) (Lib.byteCells acc) wr) (fun v _=>strLen v)
  case atStart=>exact⟨ls.length+1,ls,[],rfl,Nat.lt_succ_self _,hs,Q9 _,HR.out,bel,by have:=Lib.fresh_isBuilder 246 5 ((w.alloc (.cells #[.slice (some ⟨gs,0,none⟩) 3 c1,nv,.int .i64 text] 178)).alloc zObj);simp[Lib.byteCells] at this ⊢;exact this⟩
  case round =>
   obtain⟨f,l,acc,rfl,hf,hL,ha,hd,hB,hb⟩:=hrel;obtain⟨f,rfl⟩:∃ k,f=k+1:=⟨f-1,by omega⟩
   have hC:MaxL wr:=(hI.out.below (bel:Below w.heap.size w _)).below hB;obtain⟨l0,q0,rfl⟩:=zA0 hB;have he:=zh hb;have hK:=zh hd;have hr:=zh hC;obtain⟨m,hm⟩:=lt_ acc.length;rw[hm] at ha;clear hb hd hB hC;obtain⟨bf,hj⟩:=lt_ ((Lib.cut l lt).1);obtain⟨af,hi⟩:=lt_ ((Lib.cut l lt).2.1);obtain⟨fo,hn⟩:=lt_ ((Lib.cut l lt).2.2);have hD:=cut_fst_le l lt;rw[hj] at hD;obtain⟨k,hk⟩:=lt_ bf.length;rw[hk] at hD;have hp:=zh (cut_more l lt);rw[hj,hi,hn] at hp;have hR:=hK.out;rw[substGo,hj,hi,hn,hm,hk] at hR;have hbs:(⟨bf.toArray⟩:ByteArray).size=k:=hk;by_cases hlong:text<m+k
   ·rw[if_pos hlong] at hR;subst hR;have hh:(text:Int)<(m:Int)+(k:Int):=by omega
    have hQ:Q4.wrap ((m:Int)+(k:Int))=(m:Int)+k:=by rw[Q3];omega
    clear hj hi hn hlong hk;go_wp2_with(go_at_call 286;refine(hp.out _ hr.out (by omega)).mono ?_;rintro e w1 ⟨rfl,n1,rfl⟩)
    go_quiet (first|(go_at_call 287;exact len_more hm he.out));go_wp2_with(go_at_call 13;refine mB (zA3 _ _) ?_;intro l1 m1)
    all_goals(go_returns;exact rb_)
   ·rw[if_neg hlong] at hR;have hh: ¬ (text:Int)<(m:Int)+(k:Int):=by omega
    have hQ:Q4.wrap ((m:Int)+(k:Int))=(m:Int)+k:=by rw[Q3];omega
    have hA:m+(⟨bf.toArray⟩:ByteArray).size<=140737488355328:=by omega
    have hy:(acc++bf).length=m+k:=by rw[Q5,hm,hk]
    cases fo with
    | false =>
      rw[if_pos rfl] at hR;clear hj hi hn hlong hk;go_wp2_with(go_at_call 286;refine(hp.out _ hr.out (by omega)).mono ?_;rintro e w1 ⟨rfl,n1,rfl⟩)
      go_quiet (first|(go_at_call 287;exact len_more hm he.out));go_wp2_with(go_at_call_of 288 (Value.string ⟨bf.toArray⟩);refine(write_list hm (by simp) bf hA he.out).mono ?_;rintro e w1 ⟨rfl,l1,q1,rfl,h1⟩;have ho:=zh h1;clear h1)
      go_wp2_with fail;go_region_with (first|(go_at_call 289;refine(string_more (by simp) ho.out).mono ?_;rintro e w2 ⟨rfl,l2,q2,rfl⟩)|(go_at_call 281;refine mB (zBi _ _ _ _ _) ?_;intro l3 m3))
      all_goals go_wp2;all_goals(go_returns;exact rb_)
    | true =>
      rw[if_neg (by decide),Q5,hy] at hR;obtain⟨g,hg⟩:=lt_ lu.length;rw[hg] at hR;have hF:=cut_rest_lt l lt HT.out hn;rw[hi] at hF;have hus:(⟨lu.toArray⟩:ByteArray).size=g:=hg;have hH:m+k+(⟨lu.toArray⟩:ByteArray).size<=140737488355328:=by omega
      have hE:(acc++bf++lu).length=m+k+g:=by rw[Q5,hy,hg]
      clear hj hi hn hlong hk;by_cases hlong2:text<m+k+g
      ·rw[if_pos hlong2] at hR;subst hR;have hc:(text:Int)<((m+k+g:Nat):Int):=by omega
       go_wp2_with(go_at_call 286;refine(hp.out _ hr.out (by omega)).mono ?_;rintro e w1 ⟨rfl,n1,rfl⟩)
       go_quiet (first|(go_at_call 287;exact len_more hm he.out));go_wp2_with(go_at_call_of 288 (Value.string ⟨bf.toArray⟩);refine(write_list hm (by simp) bf hA he.out).mono ?_;rintro e w1 ⟨rfl,l1,q1,rfl,h1⟩;have ho:=zh h1;clear h1)
       go_wp2_with(go_at_call_of 288 (Value.string ⟨lu.toArray⟩);refine(write_list hy (by simp) lu hH ho.out).mono ?_;rintro e w1 ⟨rfl,l2,q2,rfl,h1⟩;have hq:=zh h1;clear h1)
       go_quiet (first|(go_at_call 287;exact len_more hE hq.out));go_wp2_with(go_at_call 13;refine mB (zA3 _ _) ?_;intro l3 m3)
       all_goals(go_returns;exact rb_)
      ·rw[if_neg hlong2] at hR;have hc: ¬ (text:Int)<((m+k+g:Nat):Int):=by omega
       have hJ:=zh hR;clear hR;go_wp2_with(go_at_call 286;refine(hp.out _ hr.out (by omega)).mono ?_;rintro e w1 ⟨rfl,n1,rfl⟩)
       go_quiet (first|(go_at_call 287;exact len_more hm he.out));go_wp2_with(go_at_call_of 288 (Value.string ⟨bf.toArray⟩);refine(write_list hm (by simp) bf hA he.out).mono ?_;rintro e w1 ⟨rfl,l1,q1,rfl,h1⟩;have ho:=zh h1;clear h1)
       go_wp2_with(go_at_call_of 288 (Value.string ⟨lu.toArray⟩);refine(write_list hy (by simp) lu hH ho.out).mono ?_;rintro e w1 ⟨rfl,l2,q2,rfl,h1⟩;have hq:=zh h1;clear h1)
       go_quiet (first|(go_at_call 287;exact len_more hE hq.out));go_wp2_with fail;go_roundw;case rel=>exact⟨f,af,acc++bf++lu,rfl,by omega,by omega,by omega,hJ.out,bel,hq.out⟩
       case measure=>exact hF
theorem index_quiet {args:Array Value} {v:Value} {w w0:World} (h:Calls prog 285 args w fun e w'=>e=.returned v/\w'=w) (hw:∃ n,w=w0.drewN n):Calls prog 285 args w fun e w'=>e=.returned v/\∃ n,w'=w0.drewN n:=by
 obtain⟨n,rfl⟩:=hw;refine h.mono ?_;rintro e w' ⟨rfl,rfl⟩;exact⟨rfl,n,rfl⟩
def placeX (s t:ByteArray) (n:Int):V :=
 if n<1 then errG 8 else if (t.size:Int)+1<n then errG 6
 else if Lib.index (t.extract (n-1).toNat t.size).data.toList s.data.toList<0 then errG 6
 else wholeT (n+Lib.index (t.extract (n-1).toNat t.size).data.toList s.data.toList)
theorem index_le (s t:List UInt8):Lib.index s t<=s.length:=by
 by_cases h:0<=Lib.index s t
 ·have:=Lib.index_room s t h;omega
 ·omega
theorem texts_place0 (gs c1 c2:Nat) (A:Option Addr) (s t:ByteArray) (ht:t.size<=1048576) (text:Int) (w:World) (hM:MaxL w) (h0:w.cell? ⟨gs,0,none⟩=some (.string s)) (h1:w.cell? ⟨gs,1,none⟩=some (.string t)) :
  Rt 219 #[.agg #[.slice (some ⟨gs,0,none⟩) 2 c1,.slice A 0 c2,.int .i64 text]] w (vG (placeX s t 1)):=by
 have hl:=cltK h0;have hl1:gs<w.heap.size+1:=by omega
 have hl2:gs<w.heap.size+1+1:=by omega
 have hc:=zh hM;clear hM;obtain⟨R,hR⟩:=lt_ (placeX s t 1);rw[hR];unfold placeX at hR;rw[if_neg (by decide)] at hR;have hw1:Q4.wrap ((t.size:Int)+1)=(t.size:Int)+1:=by rw[Q3];omega
 have ha: ¬ (t.size:Int)+1<1:=by omega
 rw[if_neg ha] at hR;obtain⟨d,hd⟩:∃ d:Nat,d=0:=⟨_,rfl⟩
 rw[show ((1:Int)-1).toNat=0 from rfl] at hR;clear hd;obtain⟨u,hu⟩:=lt_ (t.extract 0 t.size);have hus:u.size<=t.size:=by rw[<- hu];simp
 rw[hu] at hR;obtain⟨z,hz⟩:=lt_ (Lib.index u.data.toList s.data.toList);have hb:=zh (fun w h=>index_any u s w h (by omega));rw[hz] at hR hb;have he:=index_le u.data.toList s.data.toList;rw[hz,show u.data.toList.length=u.size by rw[Array.length_toList];rfl] at he;by_cases hneg:z<0
 rw[if_pos hneg] at hR
 rotate_left
 rw[if_neg hneg] at hR;obtain⟨i,rfl⟩:∃ i:Nat,z=(i:Int):=⟨z.toNat,by omega⟩
 have hws:Q4.wrap ((1:Int)+(i:Int))=(1:Int)+(i:Int):=by rw[Q3];omega
 have HW:=zh (show Is64 ((1:Int)+(i:Int)) from ⟨by omega,by omega⟩);all_goals
  subst hR;clear hz;go_enter func219,ntmps219;go_wp2_with fail;go_quiet (first|(go_at_call 285;exact index_quiet (hb.out _ (hc.out.below bel)) ⟨_,rfl⟩));go_wp2_with(first|(go_at_call 13;refine mB (zA3 _ _) ?_;intro l1 m1)|(go_at_call 209;refine mB (texts_whole _ HW.out _) ?_;intro l1 m1))
  all_goals(go_returns;exact rb_)
theorem texts_place1 (gs c1 c2:Nat) (gn:Nat) (n:Int) (hn:Is64 n) (s t:ByteArray) (ht:t.size<=1048576) (text:Int) (w:World) (hM:MaxL w) (h0:w.cell? ⟨gs,0,none⟩=some (.string s)) (h1:w.cell? ⟨gs,1,none⟩=some (.string t)) (hc:w.cell? ⟨gn,0,none⟩=some (.int .i64 n)) :
  Rt 219 #[.agg #[.slice (some ⟨gs,0,none⟩) 2 c1,.slice (some ⟨gn,0,none⟩) 1 c2,.int .i64 text]] w (vG (placeX s t n)):=by
 have hl:=cltK h0;have hl1:gs<w.heap.size+1:=by omega
 have hl2:gs<w.heap.size+1+1:=by omega
 have hb:=zh hM;clear hM;have hln:=cltK hc;have he:gn<w.heap.size+1:=by omega
 have hf:gn<w.heap.size+1+1:=by omega
 unfold Is64 at hn;obtain⟨R,hR⟩:=lt_ (placeX s t n);rw[hR];unfold placeX at hR;by_cases hlow:n<1
 focus
  rw[if_pos hlow] at hR;subst hR;go_enter func219,ntmps219
 rotate_left
 rw[if_neg hlow] at hR;have hw1:Q4.wrap ((t.size:Int)+1)=(t.size:Int)+1:=by rw[Q3];omega
 by_cases hhigh:(t.size:Int)+1<n
 focus
  rw[if_pos hhigh] at hR;subst hR;go_enter func219,ntmps219
 rotate_left
 rw[if_neg hhigh] at hR;obtain⟨d,hd⟩:=lt_ (n-1);have hw2:Q4.wrap d=d:=by rw[Q3];omega
 rw[hd] at hR;obtain⟨u,hu⟩:=lt_ (t.extract d.toNat t.size);have hd0:(0:Int)<=d:=by omega
 have hd2:d<=(t.size:Int):=by omega
 have hus:u.size<=t.size:=by rw[<- hu];simp
 rw[hu] at hR;obtain⟨z,hz⟩:=lt_ (Lib.index u.data.toList s.data.toList);have ha:=zh (fun w h=>index_any u s w h (by omega));rw[hz] at hR ha;have hg:=index_le u.data.toList s.data.toList;rw[hz,show u.data.toList.length=u.size by rw[Array.length_toList];rfl] at hg;by_cases hneg:z<0
 focus
  rw[if_pos hneg] at hR;subst hR;clear hz;go_enter func219,ntmps219;go_wp2_with fail;go_quiet (first|(go_at_call 285;exact index_quiet (ha.out _ (hb.out.below bel)) ⟨_,rfl⟩))
 rotate_left
 focus
  rw[if_neg hneg] at hR;obtain⟨i,rfl⟩:∃ i:Nat,z=(i:Int):=⟨z.toNat,by omega⟩
  have hws:Q4.wrap (n+(i:Int))=n+(i:Int):=by rw[Q3];omega
  have HW:=zh (show Is64 (n+(i:Int)) from ⟨by omega,by omega⟩);subst hR;clear hz;go_enter func219,ntmps219;go_wp2_with fail;go_quiet (first|(go_at_call 285;exact index_quiet (ha.out _ (hb.out.below bel)) ⟨_,rfl⟩))
 all_goals
  go_wp2_with(first|(go_at_call 13;refine mB (zA3 _ _) ?_;intro l1 m1)|(go_at_call 209;refine mB (texts_whole _ HW.out _) ?_;intro l1 m1))
  all_goals(go_returns;exact rb_)
end Go.Proofs.YtnccknhbplaieaaGreatDoor
