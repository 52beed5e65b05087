/- Parts. -/
import Derived.Test.YtnccknhbplaieaaGreatDoorC16
import Derived.Test.YtnccknhbplaieaaGreatDoorC21
import Derived.Laws.IdiomStrings
import Derived.Shelf.SlGeneric
import Derived.Shelf.SlicesE.Reverse
set_option linter.all false
set_option maxRecDepth 100000
set_option maxHeartbeats 4000000
namespace Go.Proofs.YtnccknhbplaieaaGreatDoor
open Go Go.RowKit Go.Proofs.Tryz
open Go.Lib renaming hid->zh
def toldX (text:Int) (s:ByteArray):V:=if text<s.size then errG 7 else txtG s
theorem zBi (sv nv:Value) (text:Int) (s:ByteArray) (w:World):Rt 281 #[.agg #[sv,nv,.int .i64 text],.string s] w (vG (toldX text s)):=by
 unfold toldX;by_cases h:text<s.size
 ·rw[if_pos h];go_enter func281,ntmps281;go_wp2_with(go_at_call 13;refine mB (zA3 _ _) ?_;intro l n)
  all_goals(go_returns;exact rb_)
 ·rw[if_neg h];go_enter func281,ntmps281;go_wp2_with(go_at_call 312;refine mB (value_Txt _ _) ?_;intro l n)
  all_goals(go_returns;exact rb_)
theorem texts_count0 (sv:Value) (A:Option Addr) (c:Nat) (text:Int) (w:World):Rt 280 #[.agg #[sv,.slice A 0 c,.int .i64 text]] w (.tuple #[.int .i64 1,.bool true]):=by
 go_enter func280,ntmps280;go_wp2;all_goals(go_returns;exact rb_)
theorem texts_count1 (sv:Value) (gn c:Nat) (n text:Int) (w:World) (h:w.cell? ⟨gn,0,none⟩=some (.int .i64 n)):Rt 280 #[.agg #[sv,.slice (some ⟨gn,0,none⟩) 1 c,.int .i64 text]] w (.tuple #[.int .i64 n,.bool (decide (0<=n))]):=by
 have hl:=cltK h;go_enter func280,ntmps280;go_wp2;all_goals(go_returns;exact rb_)
def wholeT (n:Int):V:=numG (IntKind.i64.wrap (n*10000))
theorem texts_whole (n:Int) (hn:Is64 n) (w:World):Rt 209 #[.int .i64 n] w (vG (wholeT n)):=by
 have h1:IntKind.i64.wrap n=n:=by unfold Is64 at hn;rw[IntKind.wrap_i64];omega
 obtain⟨z,hz⟩:=lt_ (IntKind.i64.wrap (n*10000));unfold wholeT;rw[hz];go_enter func209,ntmps209;go_wp2_with(go_at_call 140;refine mB (zB2 _ _) ?_;intro l m)
 all_goals(go_returns;exact rb_)
theorem texts_len (gs c:Nat) (k:Nat) (hk:0<k) (nv:Value) (text:Int) (s:ByteArray) (hs:s.size<=9223372036854775807) (w:World) (h:w.cell? ⟨gs,0,none⟩=some (.string s)):Rt 208 #[.agg #[.slice (some ⟨gs,0,none⟩) k c,nv,.int .i64 text]] w (vG (wholeT s.size)):=by
 have hl:=cltK h;have HS:=zh (show Is64 (s.size:Int) from ⟨by omega,by omega⟩);have hk':(0:Int)<(k:Int):=by omega
 go_enter func208,ntmps208;go_wp2_with(go_at_call 209;refine mB (texts_whole _ HS.out _) ?_;intro l m)
 all_goals(go_returns;exact rb_)
def ordX (s:ByteArray):V:=if s.toList.isEmpty then errG 8 else wholeT ((s.data.toList.getD 0 0).toNat:Nat)
def charX (text n:Int):V:=if n<0∨255<n then errG 8 else toldX text ⟨#[UInt8.ofNat n.toNat]⟩
def leftX (text:Int) (s:ByteArray) (n:Int):V:=if n<0 then errG 8 else toldX text (s.extract 0 (min n (s.size:Int)).toNat)
def rightX (text:Int) (s:ByteArray) (n:Int):V:=if n<0 then errG 8 else toldX text (s.extract ((s.size:Int)-min n (s.size:Int)).toNat s.size)
theorem texts_left (gs c k:Nat) (hk:0<k) (nv:Value) (text n:Int) (hn:Is64 n) (s:ByteArray) (hs:s.size<=9223372036854775807) (w:World) (h:w.cell? ⟨gs,0,none⟩=some (.string s))
  (hc:∀ W,Below w.heap.size w W->Rt 280 #[.agg #[.slice (some ⟨gs,0,none⟩) k c,nv,.int .i64 text]] W (.tuple #[.int .i64 n,.bool (decide (0<=n))])) :
  Rt 210 #[.agg #[.slice (some ⟨gs,0,none⟩) k c,nv,.int .i64 text]] w (vG (leftX text s n)):=by
 have hl:=cltK h;have hk':(0:Int)<(k:Int):=by omega
 have HC:=zh hc;clear hc;unfold leftX;by_cases hneg:n<0
 ·rw[if_pos hneg];have hd:decide (0<=n)=false:=by simp;omega
  go_enter func210,ntmps210;go_wp2_with(first|(go_at_call 280;refine mB (HC.out _ bel) ?_;intro l m)|(go_at_call 13;refine mB (zA3 _ _) ?_;intro l1 m1))
  all_goals(go_returns;exact rb_)
 ·rw[if_neg hneg];have hd:decide (0<=n)=true:=by simp;omega
  have hq0:(0:Int)<=min n (s.size:Int):=by omega
  have hq1:min n (s.size:Int)<=(s.size:Int):=by omega
  clear hneg;go_enter func210,ntmps210;go_wp2_with(go_at_call 280;refine mB (HC.out _ bel) ?_;intro l m)
  go_region_held3 (fun w'=>w'.cell? ⟨w.heap.size,0,none⟩=some (.slice (some ⟨gs,0,none⟩) k c)/\w'.cell? ⟨w.heap.size,1,none⟩=some nv/\w'.cell? ⟨w.heap.size,2,none⟩=some (.int .i64 text)/\w'.cell? ⟨gs,0,none⟩=some (.string s))
   (first|(go_keep;done)|(go_split_ands;(repeat' refine And.intro ?_ ?_)<;>first|trivial|(go_simp;done)|(repeat(first|assumption|with_reducible refine zAv ?_ _ _|with_reducible refine zAq ?_ _|with_reducible refine zB3 ?_))))
   (first|(go_at_call 281;refine mB (zBi _ _ _ _ _) ?_;intro l1 m1))
  all_goals go_wp2;all_goals(go_returns;exact rb_)
theorem texts_right (gs c k:Nat) (hk:0<k) (nv:Value) (text n:Int) (hn:Is64 n) (s:ByteArray) (hs:s.size<=9223372036854775807) (w:World) (h:w.cell? ⟨gs,0,none⟩=some (.string s))
  (hc:∀ W,Below w.heap.size w W->Rt 280 #[.agg #[.slice (some ⟨gs,0,none⟩) k c,nv,.int .i64 text]] W (.tuple #[.int .i64 n,.bool (decide (0<=n))])) :
  Rt 211 #[.agg #[.slice (some ⟨gs,0,none⟩) k c,nv,.int .i64 text]] w (vG (rightX text s n)):=by
 have hl:=cltK h;have hk':(0:Int)<(k:Int):=by omega
 have HC:=zh hc;clear hc;unfold rightX;by_cases hneg:n<0
 ·rw[if_pos hneg];have hd:decide (0<=n)=false:=by simp;omega
  go_enter func211,ntmps211;go_wp2_with(first|(go_at_call 280;refine mB (HC.out _ bel) ?_;intro l m)|(go_at_call 13;refine mB (zA3 _ _) ?_;intro l1 m1))
  all_goals(go_returns;exact rb_)
 ·rw[if_neg hneg];have hd:decide (0<=n)=true:=by simp;omega
  have ha:(0:Int)<=min n (s.size:Int):=by omega
  have hb:min n (s.size:Int)<=(s.size:Int):=by omega
  obtain⟨q,hq⟩:=lt_ (min n (s.size:Int));rw[hq] at ha hb ⊢;obtain⟨p,hp⟩:=lt_ ((s.size:Int)-q);rw[hp];have hp0:(0:Int)<=p:=by omega
  have hp1:p<=(s.size:Int):=by omega
  have hw:IntKind.i64.wrap p=p:=by rw[IntKind.wrap_i64];omega
  clear hneg ha hb;go_enter func211,ntmps211;go_wp2_with(go_at_call 280;refine mB (HC.out _ bel) ?_;intro l m)
  go_region_held3 (fun w'=>w'.cell? ⟨w.heap.size,0,none⟩=some (.slice (some ⟨gs,0,none⟩) k c)/\w'.cell? ⟨w.heap.size,1,none⟩=some nv/\w'.cell? ⟨w.heap.size,2,none⟩=some (.int .i64 text)/\w'.cell? ⟨gs,0,none⟩=some (.string s))
   (first|(go_keep;done)|(go_split_ands;(repeat' refine And.intro ?_ ?_)<;>first|trivial|(go_simp;done)|(repeat(first|assumption|with_reducible refine zAv ?_ _ _|with_reducible refine zAq ?_ _|with_reducible refine zB3 ?_))))
   (first|(go_at_call 281;refine mB (zBi _ _ _ _ _) ?_;intro l1 m1))
  all_goals go_wp2;all_goals(go_returns;exact rb_)
def midX (text:Int) (s:ByteArray) (a b:Int):V:=if a<1∨b<0 then errG 8 else toldX text ((s.extract (min (a-1) (s.size:Int)).toNat s.size).extract 0 (min b ((s.extract (min (a-1) (s.size:Int)).toNat s.size).size:Int)).toNat)
theorem texts_mid (gs c1 gn c2 k:Nat) (hk:0<k) (a b text:Int) (ha:Is64 a) (s:ByteArray) (hs:s.size<=9223372036854775807) (w:World) (h:w.cell? ⟨gs,0,none⟩=some (.string s)) (h0:w.cell? ⟨gn,0,none⟩=some (.int .i64 a)) (h1:w.cell? ⟨gn,1,none⟩=some (.int .i64 b)) :
  Rt 212 #[.agg #[.slice (some ⟨gs,0,none⟩) k c1,.slice (some ⟨gn,0,none⟩) 2 c2,.int .i64 text]] w (vG (midX text s a b)):=by
 have hl:=cltK h;have hl2:=cltK h0;have hk':(0:Int)<(k:Int):=by omega
 unfold midX;by_cases hA:a<1
 rw[if_pos (.inl hA)]
 rotate_left
 by_cases hB:b<0
 rw[if_pos (.inr hB)]
 rotate_left
 ·rw[if_neg (by rintro(h|h);exact hA h;exact hB h)];unfold Is64 at ha;obtain⟨d,hd⟩:=lt_ (a-1);have hw:IntKind.i64.wrap d=d:=by rw[IntKind.wrap_i64];omega
  rw[hd];obtain⟨q,hq⟩:=lt_ (min d (s.size:Int));have hq0:(0:Int)<=q:=by omega
  have hq1:q<=(s.size:Int):=by omega
  rw[hq];obtain⟨t,ht⟩:=lt_ (s.extract q.toNat s.size);rw[ht];obtain⟨r,hr⟩:=lt_ (min b (t.size:Int));have hr0:(0:Int)<=r:=by omega
  have hr1:r<=(t.size:Int):=by omega
  rw[hr];go_enter func212,ntmps212;go_wp2_with fail;go_quiet (fail);all_goals go_wp2_with fail
  go_region_held3 (fun w'=>w'.cell? ⟨w.heap.size,0,none⟩=some (.slice (some ⟨gs,0,none⟩) k c1)/\w'.cell? ⟨w.heap.size,1,none⟩=some (.slice (some ⟨gn,0,none⟩) 2 c2)/\w'.cell? ⟨w.heap.size,2,none⟩=some (.int .i64 text)/\w'.cell? ⟨gn,1,none⟩=some (.int .i64 b))
   (first|(go_keep;done)|(go_split_ands;(repeat' refine And.intro ?_ ?_)<;>first|trivial|(go_simp;done)|(repeat(first|assumption|with_reducible refine zAv ?_ _ _|with_reducible refine zAq ?_ _|with_reducible refine zB3 ?_))))
   (first|(go_at_call 281;refine mB (zBi _ _ _ _ _) ?_;intro l1 m1))
  all_goals go_wp2;all_goals(go_returns;exact rb_)
 all_goals
  go_enter func212,ntmps212;go_wp2_with(go_at_call 13;refine mB (zA3 _ _) ?_;intro l1 m1)
  all_goals(go_returns;exact rb_)
def exactX (s t:ByteArray):V:=zAa (s.toList==t.toList)
theorem texts_exact (gs c1:Nat) (nv:Value) (text:Int) (s t:ByteArray) (w:World) (h:w.cell? ⟨gs,0,none⟩=some (.string s)) (h1:w.cell? ⟨gs,1,none⟩=some (.string t)) :
  Rt 225 #[.agg #[.slice (some ⟨gs,0,none⟩) 2 c1,nv,.int .i64 text]] w (vG (exactX s t)):=by
 have hl:=cltK h;obtain⟨z,hz⟩:=lt_ (s.toList==t.toList);unfold exactX;rw[hz];go_enter func225,ntmps225;go_wp2_with fail
 go_region_held3 (fun w'=>w'.cell? ⟨w.heap.size,0,none⟩=some (.slice (some ⟨gs,0,none⟩) 2 c1)/\w'.cell? ⟨gs,0,none⟩=some (.string s)/\w'.cell? ⟨gs,1,none⟩=some (.string t))
  (first|(go_keep;done)|(go_split_ands;(repeat' refine And.intro ?_ ?_)<;>first|trivial|(go_simp;done)|(repeat(first|assumption|with_reducible refine zAv ?_ _ _|with_reducible refine zAq ?_ _|with_reducible refine zB3 ?_))))
  (first|(go_at_call 178;refine mB (value_Truth _ _) ?_;intro l1 m1))
 all_goals go_wp2;all_goals(go_returns;exact rb_)
theorem texts_text (f:Nat) (hf:∀ (args:Array Value) (w:World),Sem.run prog (callFunc f args) w=.ok (.enter f args) w) (p gs c1 k:Nat) (hk:0<k) (nv:Value) (text:Int) (s r:ByteArray) (w:World) (hp:w.cell? ⟨p,0,none⟩=some (.func (.func f) #[] #[])) (h:w.cell? ⟨gs,0,none⟩=some (.string s))
  (hd:∀ W,Below w.heap.size w W->Calls prog f #[.string s] W fun e w'=>e=.returned (.string r)/\Below W.heap.size W w') :
  Rt 282 #[.agg #[.slice (some ⟨gs,0,none⟩) k c1,nv,.int .i64 text],.pointer (some ⟨p,0,none⟩)] w (vG (toldX text r)):=by
 have hl:=cltK h;have hpl:=cltK hp;have hk2:(0:Int)<(k:Int):=by omega
 have HD:=zh hd;clear hd;go_enter func282,ntmps282;go_wp2_with fail
 go_region_held3 (fun w'=>w'.cell? ⟨w.heap.size,0,none⟩=some (.slice (some ⟨gs,0,none⟩) k c1)/\w'.cell? ⟨w.heap.size,1,none⟩=some nv/\w'.cell? ⟨w.heap.size,2,none⟩=some (.int .i64 text)/\w'.cell? ⟨gs,0,none⟩=some (.string s)/\w'.cell? ⟨p,0,none⟩=some (.func (.func f) #[] #[]))
  (first|(go_keep;done)|(go_split_ands;(repeat' refine And.intro ?_ ?_)<;>first|trivial|(go_simp;done)|(repeat(first|assumption|with_reducible refine zAv ?_ _ _|with_reducible refine zAq ?_ _|with_reducible refine zB3 ?_))))
  (first|(go_at_call 281;refine mB (zBi _ _ _ _ _) ?_;intro l1 m1)|(with_reducible refine Calls.mono (HD.out _ bel) ?_;rintro e w2 ⟨rfl,hb⟩;obtain⟨l2,m2,rfl⟩:=zA0 hb;clear hb))
 all_goals go_wp2;all_goals(go_returns;exact rb_)
theorem texts_ord (gs c1 k:Nat) (hk:0<k) (nv:Value) (text:Int) (s:ByteArray) (w:World) (h:w.cell? ⟨gs,0,none⟩=some (.string s)) :
  Rt 223 #[.agg #[.slice (some ⟨gs,0,none⟩) k c1,nv,.int .i64 text]] w (vG (ordX s)):=by
 have hl:=cltK h;have hk2:(0:Int)<(k:Int):=by omega
 unfold ordX;cases he:s.toList.isEmpty
 ·rw[if_neg (by decide)];have hd:0<s.size:=by
   rw[ByteArray.toList_eq] at he;cases hh:s.data.toList with
   | nil=>rw[hh] at he;cases he
   | cons a t=>have h2:s.data.toList.length=(a::t).length:=by rw[hh]
               rw[Array.length_toList,List.length_cons] at h2;show 0<s.data.size;omega
  have hb:=idx_string s 0 (by decide) (by simpa using hd);have ha:Is64 (((s.data.toList.getD 0 0).toNat:Nat):Int):=by
   have:=(s.data.toList.getD 0 0).toNat_lt;exact⟨by omega,by omega⟩
  obtain⟨z,hz⟩:=lt_ ((s.data.toList.getD 0 0).toNat);have hc:∀ w,(Instr.index 9 (.string s) (.int .i64 0)).run prog w=.ok (.int .u8 (z:Int)) w:=fun w=>by rw[hb];simp only[Int.toNat_zero,hz]
  rw[hz] at ha ⊢;have HZ:=zh ha;have hu:IntKind.i64.wrap (z:Int)=z:=by unfold Is64 at ha;rw[IntKind.wrap_i64];omega
  clear hb ha hz;go_enter func223,ntmps223;go_wp2_with(go_at_call 209;refine mB (texts_whole _ HZ.out _) ?_;intro l1 m1)
  all_goals(go_returns;exact rb_)
 ·rw[if_pos rfl];go_enter func223,ntmps223;go_wp2_with(go_at_call 13;refine mB (zA3 _ _) ?_;intro l1 m1)
  all_goals(go_returns;exact rb_)
def B8 (l:List UInt8):List Value:=l.map fun b=>.int .u8 ((b.toNat:Nat):Int)
def turnB (f t:Nat) (c:UInt8):UInt8:=if f<=c.toNat/\c.toNat<f+26 then UInt8.ofNat (c.toNat-f+t) else c
def eachX (f t:Nat) (s:ByteArray):ByteArray:=⟨(s.data.toList.map (turnB f t)).toArray⟩
structure Row8 (w:World) (g:Nat) (l:List UInt8):Prop where
 at0:AtB w g (B8 l)
 fr:∀ i,i<l.length->w.frozen? ⟨g,i,none⟩=false
 lt:g<w.heap.size
theorem row8_new (w:World) (s:ByteArray) (cap:Nat) (hc:s.size<=cap) (fr:Nat×Nat) (hf:fr=((bytesRow s cap).size,(bytesRow s cap).size+1)):Row8 (w.alloc (.cells (bytesRow s cap) 5 fr)) w.heap.size s.data.toList:=by
 have ha:(bytesRow s cap).size=cap:=by
  unfold bytesRow;simp;have:s.data.size=s.size:=rfl;omega
 refine⟨fun j u hu=> ?_,fun i hi=> ?_,by simp⟩
 ·have hj:j<s.data.size:=by have:=(List.getElem?_eq_some_iff.1 hu).1;simpa [B8] using this
  rw[World.cell?_alloc_mark,bytesRow_at s cap j hj];simp only[B8,List.getElem?_map,List.getElem?_eq_getElem (show j<s.data.toList.length by simpa using hj),Option.map_some,Option.some.injEq] at hu;rw[<- hu];simp
 ·have hi':i<s.size:=by simpa using hi
  have hh:(w.alloc (.cells (bytesRow s cap) 5 fr)).heap[w.heap.size]? =some (.cells (bytesRow s cap) 5 fr):=heap_alloc_new w _;simp only[World.frozen?,hh];rw[hf,ha];simp;omega
theorem row8_set {w:World} {g i:Nat} {l:List UInt8} {b:UInt8} (h:Row8 w g l) (hi:i<l.length):Row8 (w.setCell ⟨g,i,none⟩ (.int .u8 ((b.toNat:Nat):Int))) g (l.set i b):=by
 refine⟨?_,fun j hj=>by have:=h.fr j (by simpa using hj);simpa using this,by simpa using h.lt⟩;have h1:=atB_set h.at0 (i:=i) (by simpa [B8] using hi) (.int .u8 ((b.toNat:Nat):Int))
 simpa [B8,List.map_set] using h1
theorem row8_back {w:World} {g cap:Nat} {l:List UInt8} (h:Row8 w g l):(convert 98 9 (.slice (some ⟨g,0,none⟩) l.length cap)).run prog w=.ok (.string ⟨l.toArray⟩) w :=
 run_convert_bytes_back w _ _ 5 ⟨g,0,none⟩ cap l underlying98 underlying5 underlying9 (fun j hj=>by
  have e:(⟨g,0,none⟩:Addr).add j=⟨g,j,none⟩:=by unfold Addr.add;split<;>simp_all
  rw[e];exact h.at0 j _ (by simp[B8,List.getElem?_eq_getElem hj]))
theorem Row8.below {w w':World} {g:Nat} {l:List UInt8} (h:Row8 w g l) (hb:Below w.heap.size w w'):Row8 w' g l :=
 ⟨h.at0.below hb,fun i hi=>(World.frozen?_of_block (a:=⟨g,i,none⟩) (hb.block g h.lt)).trans (h.fr i hi),Nat.lt_of_lt_of_le h.lt hb.size⟩
theorem turned_step (f t:Nat) (l:List UInt8) (j:Nat) (a:UInt8) (ha:l[j]? =some a):((l.take j).map (turnB f t)++l.drop j).set j (turnB f t a)=(l.take (j+1)).map (turnB f t)++l.drop (j+1):=by
 obtain⟨hj,hv⟩:=List.getElem?_eq_some_iff.1 ha;rw[List.drop_eq_getElem_cons hj,hv];have hb:((l.take j).map (turnB f t)).length=j:=by simp;omega
 rw[List.set_append_right _ _ (by omega),hb,Nat.sub_self,List.set_cons_zero];rw[show l.take (j+1)=l.take j++[a] by rw[List.take_add_one,ha];rfl];simp
theorem set_same {l:List UInt8} {j:Nat} {a:UInt8} (h:l[j]? =some a):l.set j a=l:=by
 obtain⟨hj,rfl⟩:=List.getElem?_eq_some_iff.1 h;exact List.set_getElem_self hj
theorem turned_at (f t:Nat) (l:List UInt8) (j:Nat) (a:UInt8) (ha:l[j]? =some a):((l.take j).map (turnB f t)++l.drop j)[j]? =some a:=by
 obtain⟨hj,hv⟩:=List.getElem?_eq_some_iff.1 ha;rw[List.getElem?_append_right (by simp;omega)];rw[show j-((l.take j).map (turnB f t)).length=0 by simp;omega,List.getElem?_drop]
 simpa using ha
theorem texts_eachUp (s:ByteArray) (hs:s.size<=1000000000000) (w:World):Rt 215 #[.string s,.int .u8 97,.int .u8 65] w (.string (eachX 97 65 s)):=by
 have hw:∀ w,(convert 9 98 (.string s)).run prog w=.ok (.slice (some ⟨w.heap.size,0,none⟩) s.size (grownCap w s.size 0 5)) (w.drew.alloc (.cells (bytesRow s (grownCap w s.size 0 5)) 5 ((bytesRow s (grownCap w s.size 0 5)).size,(bytesRow s (grownCap w s.size 0 5)).size+1))):=fun w=>run_bytes_of_string w _ _ 5 s underlying9 underlying98 underlying5;obtain⟨l,hl⟩:=lt_ s.data.toList;obtain⟨n,hn⟩:=lt_ l.length;have hp:s.size=n:=by rw[<- hn,<-hl,Array.length_toList];rfl
 have hx:eachX 97 65 s=⟨(l.map (turnB 97 65)).toArray⟩:=by unfold eachX;rw[hl]
 have hi:s.size<=grownCap w s.size 0 5:=grownCap_ge _ _ _ _;have hk:=zh (row8_new w.drew s (grownCap w s.size 0 5) hi _ rfl);rw[hl] at hk;rw[hx];rw[hp] at hw hk hs;have HN:=zh hn;clear hl hx hi hp hn;go_enter func215,ntmps215;go_wp2
 go_loopw [14] (fun u wr=>∃ j:Nat,j<=n/\u=.int .i64 j/\Below w.heap.size w wr/\Row8 wr w.heap.size ((l.take j).map (turnB 97 65)++l.drop j)) (fun u _=>n-(intOf u).toNat)
 case atStart=>exact⟨0,Nat.zero_le _,rfl,bel,hk.out⟩
 case round =>
  obtain⟨j,hj,rfl,hB,hR⟩:=hrel;have HB:=zh hB;have HR:=zh hR;have hsz:=hB.size;have hgl:=hR.lt;clear hB hR;by_cases hlt:j<n
  obtain⟨a,ha⟩:∃ a,l[j]? =some a:=⟨_,List.getElem?_eq_getElem (show j<l.length by have:=HN.out;omega)⟩
  have c0:=HR.out.at0 j _ (show (B8 ((l.take j).map (turnB 97 65)++l.drop j))[j]? =some (.int .u8 ((a.toNat:Nat):Int)) by simp only[B8,List.getElem?_map,turned_at _ _ l j a ha,Option.map_some]);have he:((l.take j).map (turnB 97 65)++l.drop j).length=n:=by have:=HN.out;simp;omega
  have f0:=HR.out.fr j (by rw[he];exact hlt);have hf:=row8_set (b:=turnB 97 65 a) HR.out (by rw[he];exact hlt);rw[turned_step _ _ l j a ha] at hf;have HS:=zh hf;have hh:=a.toNat_lt;by_cases hc:97<=a.toNat/\a.toNat<97+26
  ·have hg:(turnB 97 65 a).toNat=a.toNat-97+65:=by
    unfold turnB;rw[if_pos hc];simp;omega
   obtain⟨z,hz⟩:=lt_ (a.toNat-97+65);rw[hz] at hg;have ht:=zh hg;obtain⟨b,hb⟩:=lt_ a.toNat;rw[hb] at c0 hc hh hz;obtain⟨ho,hv⟩:=hc;obtain⟨d,hd⟩:∃ d:Nat,b=d+97:=⟨b-97,by omega⟩
   have k1:(97:Int)<=(b:Int):=by omega
   have k2:(b:Int)<123:=by omega
   have k3:IntKind.u8.wrap (b-97:Int)=(d:Int):=by rw[IntKind.wrap_u8];omega
   have k4:IntKind.u8.wrap (d+65:Int)=(z:Int):=by rw[IntKind.wrap_u8];omega
   have k5:(b:Int)-97=(d:Int):=by omega
   have k6:(d:Int)+65=(z:Int):=by omega
   have hq:z<256:=by omega
   clear hf he ha hz hb hd hg ho hv;go_wp2;go_roundw;case rel=>exact⟨j+1,by omega,by go_num,(by have hB:=HB.out;exact bel),by have h:=HS.out;rw[ht.out] at h;exact h⟩
   case measure=>simp[intOf];omega
  have hg:turnB 97 65 a=a:=by unfold turnB;rw[if_neg hc]
  have hm:Row8 wr w.heap.size ((l.take (j+1)).map (turnB 97 65)++l.drop (j+1)):=by
   have h1:=turned_step 97 65 l j a ha;rw[hg,set_same (turned_at _ _ l j a ha)] at h1;rw[<- h1];exact HR.out
  have hr:=zh hm;by_cases ho:97<=a.toNat
  have k1:(97:Int)<=(a.toNat:Int):=by omega
  have k2: ¬ (a.toNat:Int)<123:=by omega
  rotate_left
  have k1: ¬ (97:Int)<=(a.toNat:Int):=by omega
  rotate_left
  ·obtain rfl:j=n:=by omega
   have hR:=HR.out;rw[List.take_of_length_le (by have:=HN.out;omega),List.drop_of_length_le (by have:=HN.out;omega),List.append_nil] at hR;have hu:=row8_back (cap:=grownCap w j 0 5) hR;rw[List.length_map,HN.out] at hu;clear hR;go_wp2;go_returns;exact⟨rfl,HB.out⟩
  all_goals
   clear hf he ha hg hm;go_wp2;go_roundw;case rel=>exact⟨j+1,by omega,by go_num,HB.out,hr.out⟩
   case measure=>simp[intOf];omega
theorem texts_eachLow (s:ByteArray) (hs:s.size<=1000000000000) (w:World):Rt 215 #[.string s,.int .u8 65,.int .u8 97] w (.string (eachX 65 97 s)):=by
 have hw:∀ w,(convert 9 98 (.string s)).run prog w=.ok (.slice (some ⟨w.heap.size,0,none⟩) s.size (grownCap w s.size 0 5)) (w.drew.alloc (.cells (bytesRow s (grownCap w s.size 0 5)) 5 ((bytesRow s (grownCap w s.size 0 5)).size,(bytesRow s (grownCap w s.size 0 5)).size+1))):=fun w=>run_bytes_of_string w _ _ 5 s underlying9 underlying98 underlying5;obtain⟨l,hl⟩:=lt_ s.data.toList;obtain⟨n,hn⟩:=lt_ l.length;have hp:s.size=n:=by rw[<- hn,<-hl,Array.length_toList];rfl
 have hx:eachX 65 97 s=⟨(l.map (turnB 65 97)).toArray⟩:=by unfold eachX;rw[hl]
 have hi:s.size<=grownCap w s.size 0 5:=grownCap_ge _ _ _ _;have hk:=zh (row8_new w.drew s (grownCap w s.size 0 5) hi _ rfl);rw[hl] at hk;rw[hx];rw[hp] at hw hk hs;have HN:=zh hn;clear hl hx hi hp hn;go_enter func215,ntmps215;go_wp2
 go_loopw [14] (fun u wr=>∃ j:Nat,j<=n/\u=.int .i64 j/\Below w.heap.size w wr/\Row8 wr w.heap.size ((l.take j).map (turnB 65 97)++l.drop j)) (fun u _=>n-(intOf u).toNat)
 case atStart=>exact⟨0,Nat.zero_le _,rfl,bel,hk.out⟩
 case round =>
  obtain⟨j,hj,rfl,hB,hR⟩:=hrel;have HB:=zh hB;have HR:=zh hR;have hsz:=hB.size;have hgl:=hR.lt;clear hB hR;by_cases hlt:j<n
  obtain⟨a,ha⟩:∃ a,l[j]? =some a:=⟨_,List.getElem?_eq_getElem (show j<l.length by have:=HN.out;omega)⟩
  have c0:=HR.out.at0 j _ (show (B8 ((l.take j).map (turnB 65 97)++l.drop j))[j]? =some (.int .u8 ((a.toNat:Nat):Int)) by simp only[B8,List.getElem?_map,turned_at _ _ l j a ha,Option.map_some]);have he:((l.take j).map (turnB 65 97)++l.drop j).length=n:=by have:=HN.out;simp;omega
  have f0:=HR.out.fr j (by rw[he];exact hlt);have hf:=row8_set (b:=turnB 65 97 a) HR.out (by rw[he];exact hlt);rw[turned_step _ _ l j a ha] at hf;have HS:=zh hf;have hh:=a.toNat_lt;by_cases hc:65<=a.toNat/\a.toNat<65+26
  ·have hg:(turnB 65 97 a).toNat=a.toNat-65+97:=by
    unfold turnB;rw[if_pos hc];simp;omega
   obtain⟨z,hz⟩:=lt_ (a.toNat-65+97);rw[hz] at hg;have ht:=zh hg;obtain⟨b,hb⟩:=lt_ a.toNat;rw[hb] at c0 hc hh hz;obtain⟨ho,hv⟩:=hc;obtain⟨d,hd⟩:∃ d:Nat,b=d+65:=⟨b-65,by omega⟩
   have k1:(65:Int)<=(b:Int):=by omega
   have k2:(b:Int)<91:=by omega
   have k3:IntKind.u8.wrap (b-65:Int)=(d:Int):=by rw[IntKind.wrap_u8];omega
   have k4:IntKind.u8.wrap (d+97:Int)=(z:Int):=by rw[IntKind.wrap_u8];omega
   have k5:(b:Int)-65=(d:Int):=by omega
   have k6:(d:Int)+97=(z:Int):=by omega
   have hq:z<256:=by omega
   clear hf he ha hz hb hd hg ho hv;go_wp2;go_roundw;case rel=>exact⟨j+1,by omega,by go_num,(by have hB:=HB.out;exact bel),by have h:=HS.out;rw[ht.out] at h;exact h⟩
   case measure=>simp[intOf];omega
  have hg:turnB 65 97 a=a:=by unfold turnB;rw[if_neg hc]
  have hm:Row8 wr w.heap.size ((l.take (j+1)).map (turnB 65 97)++l.drop (j+1)):=by
   have h1:=turned_step 65 97 l j a ha;rw[hg,set_same (turned_at _ _ l j a ha)] at h1;rw[<- h1];exact HR.out
  have hr:=zh hm;by_cases ho:65<=a.toNat
  have k1:(65:Int)<=(a.toNat:Int):=by omega
  have k2: ¬ (a.toNat:Int)<91:=by omega
  rotate_left
  have k1: ¬ (65:Int)<=(a.toNat:Int):=by omega
  rotate_left
  ·obtain rfl:j=n:=by omega
   have hR:=HR.out;rw[List.take_of_length_le (by have:=HN.out;omega),List.drop_of_length_le (by have:=HN.out;omega),List.append_nil] at hR;have hu:=row8_back (cap:=grownCap w j 0 5) hR;rw[List.length_map,HN.out] at hu;clear hR;go_wp2;go_returns;exact⟨rfl,HB.out⟩
  all_goals
   clear hf he ha hg hm;go_wp2;go_roundw;case rel=>exact⟨j+1,by omega,by go_num,HB.out,hr.out⟩
   case measure=>simp[intOf];omega
theorem texts_upper (s:ByteArray) (hs:s.size<=1000000000000) (w:World):Rt 214 #[.string s] w (.string (eachX 97 65 s)):=by
 have HS:=zh hs;clear hs;go_enter func214,ntmps214;go_wp2_with(go_at_call 215;refine mB (texts_eachUp s HS.out _) ?_;intro l1 m1)
 all_goals(go_returns;exact rb_)
theorem texts_lower (s:ByteArray) (hs:s.size<=1000000000000) (w:World):Rt 216 #[.string s] w (.string (eachX 65 97 s)):=by
 have HS:=zh hs;clear hs;go_enter func216,ntmps216;go_wp2_with(go_at_call 215;refine mB (texts_eachLow s HS.out _) ?_;intro l1 m1)
 all_goals(go_returns;exact rb_)
end Go.Proofs.YtnccknhbplaieaaGreatDoor
namespace Go.Proofs
open Go.Shelf
def Tryz.layRev_ren:Go.Shelf.Ren:=⟨fun|35=>293|n=>n,fun|22=>98|23=>5|3=>3|4=>4|0=>0|n=>n,fun|n=>n⟩
theorem Tryz.layRev:Go.Proofs.SlLaysE.n35 Tryz.prog Tryz.layRev_ren:= {
 mixed:=by kernel_rfl
 f35:=⟨Tryz.f293.name,by decide,Tryz.func293.trans (congrArg some (by kernel_rfl))⟩
 t0:=Tryz.underlying0
 a0:=Tryz.isAgg0
 z0:=Tryz.sizeOf0
 v0:=Tryz.zeroValue0
 t3:=Tryz.underlying3
 a3:=Tryz.isAgg3
 z3:=Tryz.sizeOf3
 v3:=Tryz.zeroValue3
 t4:=Tryz.underlying4
 a4:=Tryz.isAgg4
 z4:=Tryz.sizeOf4
 v4:=Tryz.zeroValue4
 t22:=Tryz.underlying98
 a22:=Tryz.isAgg98
 z22:=Tryz.sizeOf98
 v22:=Tryz.zeroValue98
 a23:=Tryz.isAgg5
 z23:=Tryz.sizeOf5 }
end Go.Proofs
namespace Go.Proofs.YtnccknhbplaieaaGreatDoor
open Go Go.RowKit Go.Proofs.Tryz
open Go.Lib renaming hid->zh
theorem below_putRow {α:Type} [Inhabited α] {B blk:Nat} {w w':World} (h:Below B w w') (hB:B<=blk) (enc:α->Value) (n off:Nat) (d:Array α):Below B w (Sort.putRow enc (Sort.ahead w' n) blk off d):=by
 refine⟨h.os,h.tape,h.output,by simpa using h.size,fun k hk=> ?_⟩;have ha:blk≠k:=by omega
 rw[<- h.block k hk];simp[Sort.putRow,Sort.mapBlock,Array.getElem?_modify,ha]
def enc8:UInt8->Value:=fun b=>.int .u8 ((b.toNat:Nat):Int)
theorem row8_holds {w:World} {g:Nat} {l:List UInt8} (h:Row8 w g l):Sort.Holds enc8 w g 0 l.toArray:=by
 intro j hj;have ha:j<l.length:=by simpa using hj
 rw[Nat.zero_add];refine⟨?_,h.fr j ha⟩;have:=h.at0 j _ (show (B8 l)[j]? =some (enc8 l[j]) by simp[B8,List.getElem?_eq_getElem ha,enc8]);rw[this,getElem!_pos l.toArray j hj];simp
theorem row8_of_holds {w:World} {g:Nat} {l:List UInt8} (h:Sort.Holds enc8 w g 0 l.toArray) (hg:g<w.heap.size):Row8 w g l:=by
 refine⟨fun j u hu=> ?_,fun j hj=> ?_,hg⟩
 ·have hj:j<l.length:=by have:=(List.getElem?_eq_some_iff.1 hu).1;simpa [B8] using this
  have:=(h j (by simpa using hj)).1;rw[Nat.zero_add,getElem!_pos l.toArray j (by simpa using hj)] at this;rw[this];simp only[B8,List.getElem?_map,List.getElem?_eq_getElem hj,Option.map_some,Option.some.injEq] at hu;rw[<- hu];simp[enc8]
 ·have:=(h j (by simpa using hj)).2;rw[Nat.zero_add] at this;exact this
theorem row8_put {w:World} {g n:Nat} {l l':List UInt8} (h:Row8 w g l) (hs:l'.length=l.length):Row8 (Sort.putRow enc8 (Sort.ahead w n) g 0 l'.toArray) g l' :=
 row8_of_holds (Sort.holds_putRow enc8 (Sort.ahead w n) g 0 l.toArray l'.toArray (Sort.holds_ahead _ _ _ _ _ _ (row8_holds h)) (by simpa using hs)) (by rw[Sort.size_putRow];exact h.lt)
def revX (s:ByteArray):ByteArray:=⟨s.data.toList.reverse.toArray⟩
theorem reverse8 (g cap:Nat) (l:List UInt8) (hl:l.length<=9223372036854775807) (w:World) (h:Row8 w g l) :
  Calls prog 293 #[.slice (some ⟨g,0,none⟩) l.length cap] w fun e w'=>e=.returned (.tuple #[])/\∃ n,w'=Sort.putRow enc8 (Sort.ahead w n) g 0 l.reverse.toArray :=
 AnyE.slices_Reverse Tryz.layRev enc8 (fun _=>rfl) g 0 cap l w (row8_holds h) hl
theorem texts_rev (s:ByteArray) (hs:s.size<=1000000000000) (w:World):Rt 226 #[.string s] w (.string (revX s)):=by
 have he:∀ w,(convert 9 98 (.string s)).run prog w=.ok (.slice (some ⟨w.heap.size,0,none⟩) s.size (grownCap w s.size 0 5)) (w.drew.alloc (.cells (bytesRow s (grownCap w s.size 0 5)) 5 ((bytesRow s (grownCap w s.size 0 5)).size,(bytesRow s (grownCap w s.size 0 5)).size+1))):=fun w=>run_bytes_of_string w _ _ 5 s underlying9 underlying98 underlying5;obtain⟨l,hl⟩:=lt_ s.data.toList;have hc:s.size=l.length:=by rw[<- hl,Array.length_toList];rfl
 have hx:revX s=⟨l.reverse.toArray⟩:=by unfold revX;rw[hl]
 have ha:s.size<=grownCap w s.size 0 5:=grownCap_ge _ _ _ _;have hb:Hid (Row8 (w.alloc (.cells (bytesRow s (grownCap w s.size 0 5)) 5 ((bytesRow s (grownCap w s.size 0 5)).size,(bytesRow s (grownCap w s.size 0 5)).size+1))).drew w.heap.size s.data.toList):=zh (row8_new w.drew s (grownCap w s.size 0 5) ha _ rfl);rw[hl] at hb;rw[hx];rw[hc] at he hb hs;have HS:=zh hs;clear hl hx ha hc hs;go_enter func226,ntmps226;go_wp2_with(go_at_call 293;refine(reverse8 _ _ l (by have:=HS.out;omega) _ hb.out).mono ?_;rintro e w1 ⟨rfl,n1,rfl⟩;have hd:=row8_back (cap:=grownCap w l.length 0 5) (row8_put (n:=n1) hb.out (List.length_reverse));rw[List.length_reverse] at hd)
 all_goals(go_returns;exact⟨rfl,by refine below_putRow ?_ (by simp) _ _ _ _;exact bel⟩)
end Go.Proofs.YtnccknhbplaieaaGreatDoor
