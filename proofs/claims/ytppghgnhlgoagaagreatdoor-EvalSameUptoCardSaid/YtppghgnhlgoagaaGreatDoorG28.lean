/- Parts. -/
import Derived.Test.YtppghgnhlgoagaaGreatDoorG27
set_option linter.all false
set_option maxRecDepth 100000
set_option maxHeartbeats 4000000
namespace Go.Proofs.YtppghgnhlgoagaaGreatDoor
open Go Go.RowKit
open Go.Lib renaming hid->zh
theorem one_back {w:World} {g m:Nat} (hg:w.heap.size=g) (hm:m<256):(convert 219 9 (.slice (some ⟨g,0,none⟩) 1 1)).run Tryz.prog (w.alloc (.cells #[.int .u8 (m:Int)] 5)).drew=.ok (.string ⟨#[UInt8.ofNat m]⟩) (w.alloc (.cells #[.int .u8 (m:Int)] 5)).drew:=by
 subst hg
 refine run_convert_bytes_back _ _ _ 5 ⟨w.heap.size,0,none⟩ 1 [UInt8.ofNat m] Tryz.underlying219 Tryz.underlying5 Tryz.underlying9 (fun j hj=> ?_)
 obtain rfl:j=0:=by simpa using hj
 have e:(⟨w.heap.size,0,none⟩:Addr).add 0=⟨w.heap.size,0,none⟩:=rfl
 rw[e]
 have h2:(UInt8.ofNat m).toNat=m:=by simp;omega
 have h3:(w.alloc (.cells #[.int .u8 (m:Int)] 5)).cell? ⟨w.heap.size,0,none⟩=some (.int .u8 (m:Int)):=by
  rw[cell_of_row (w.alloc (.cells #[.int .u8 (m:Int)] 5)) w.heap.size 0 #[.int .u8 (m:Int)] 5 (0,0) (heap_alloc_new w _)]
  rfl
 simp only[List.getElem_cons_zero,h2]
 exact h3
theorem texts_char (gn c2 k:Nat) (hk:0<k) (n:Int) (hn:Is64 n) (sv:Value) (text:Int) (w:World) (hc:w.cell? ⟨gn,0,none⟩=some (.int .i64 n)) :
  Rt 196 #[.agg #[sv,.slice (some ⟨gn,0,none⟩) k c2,.int .i64 text]] w (vG (charX text n)):=by
 have hln:=cltK hc
 have hln1:gn<w.heap.size+1:=by omega
 have hln2:gn<w.heap.size+1+1:=by omega
 have hk2:(0:Int)<(k:Int):=by omega
 obtain⟨R,hR⟩:∃ R,charX text n=R:=⟨_,rfl⟩
 rw[hR]
 unfold charX at hR
 unfold Is64 at hn
 by_cases h1:n<0
 ·rw[if_pos (.inl h1)] at hR
  subst hR
  go_enter Tryz.func196,Tryz.ntmps196
  go_wp2_with(go_at_call 21;refine mB (zA3 _ _) ?_;intro l1 m1)
  all_goals go_returns
  all_goals exact⟨rfl,bel⟩
 by_cases h2:255<n
 ·rw[if_pos (.inr h2)] at hR
  subst hR
  go_enter Tryz.func196,Tryz.ntmps196
  go_wp2_with(go_at_call 21;refine mB (zA3 _ _) ?_;intro l1 m1)
  all_goals go_returns
  all_goals exact⟨rfl,bel⟩
 rw[if_neg (by omega)] at hR
 obtain⟨m,rfl⟩:∃ m:Nat,n=(m:Int):=⟨n.toNat,by omega⟩
 have hb:IntKind.u8.wrap (m:Int)=(m:Int):=by rw[IntKind.wrap_u8];omega
 have hbu:((UInt8.ofNat m).toNat:Int)=(m:Int):=by simp;omega
 have hcv:=one_back (w:=((w.alloc (.cells #[sv,.slice (some ⟨gn,0,none⟩) k c2,.int .i64 text] 209)).alloc zObj)) (g:=w.heap.size+1+1) (m:=m) (by simp) (by omega)
 rw[Int.toNat_natCast] at hR
 clear hn hbu
 go_enter Tryz.func196,Tryz.ntmps196
 go_wp2_with fail
 go_region_with (first|(go_at_call 250;refine(zBS _ _ _ _ _).mono ?_;rw[hR];rintro e w1 ⟨rfl,hb⟩;obtain⟨l1,m1,rfl⟩:=zA0 hb;clear hb))
 all_goals go_wp2
 all_goals go_returns
 all_goals exact⟨rfl,bel⟩
def repL (s:ByteArray) (n:Nat):ByteArray:=⟨(Lib.repeatL s.data.toList n).toArray⟩
def reptX (text:Nat) (s:ByteArray) (n:Int):V :=
 if n<0 then errG 8 else if s.data.toList=[]∨n=0 then toldX text ⟨#[]⟩
 else if ((text / s.size:Nat):Int)<n then errG 7 else toldX text (repL s n.toNat)
theorem texts_rept (gs c1 gn c2 k j:Nat) (hk:0<k) (hj:0<j) (s:ByteArray) (n:Int) (hn:Is64 n) (hs:s.size<=1048576) (text:Nat) (ht:text<=100000) (w:World) (h0:w.cell? ⟨gs,0,none⟩=some (.string s)) (hc:w.cell? ⟨gn,0,none⟩=some (.int .i64 n)) :
  Rt 190 #[.agg #[.slice (some ⟨gs,0,none⟩) k c1,.slice (some ⟨gn,0,none⟩) j c2,.int .i64 text]] w (vG (reptX text s n)):=by
 have hl:=cltK h0
 have hl1:gs<w.heap.size+1:=by omega
 have hl2:gs<w.heap.size+1+1:=by omega
 have hln:=cltK hc
 have hln1:gn<w.heap.size+1:=by omega
 have hln2:gn<w.heap.size+1+1:=by omega
 have hk2:(0:Int)<(k:Int):=by omega
 have hj2:(0:Int)<(j:Int):=by omega
 obtain⟨R,hR⟩:∃ R,reptX text s n=R:=⟨_,rfl⟩
 rw[hR]
 unfold reptX at hR
 unfold Is64 at hn
 by_cases h1:n<0
 ·rw[if_pos h1] at hR
  subst hR
  go_enter Tryz.func190,Tryz.ntmps190
  go_wp2_with fail
  go_quiet (fail)
  go_wp2_with(go_at_call 21;refine mB (zA3 _ _) ?_;intro l1 m1)
  all_goals go_returns
  all_goals exact⟨rfl,bel⟩
 rw[if_neg h1] at hR
 by_cases h2:s.data.toList=[]
 ·rw[if_pos (.inl h2)] at hR
  obtain rfl:s=⟨#[]⟩:=by rw[<- mk_data s,h2]
  clear h2
  go_enter Tryz.func190,Tryz.ntmps190
  go_wp2_with fail
  go_quiet (fail)
  go_wp2_with(go_at_call 250;refine(zBS _ _ _ _ _).mono ?_;rw[hR];rintro e w1 ⟨rfl,hb⟩;obtain⟨l1,m1,rfl⟩:=zA0 hb;clear hb)
  all_goals go_returns
  all_goals exact⟨rfl,bel⟩
 have hz:0<s.size:=by
  have h3:s.data.toList.length=s.size:=by rw[Array.length_toList];rfl
  have h4:=List.length_pos_iff.2 h2
  omega
 have hse:s.toList.isEmpty=false:=by
  rw[ByteArray.toList_eq]
  cases hh:s.data.toList with
  | nil=>exact absurd hh h2
  | cons a r=>rfl
 by_cases h3:n=0
 ·rw[if_pos (.inr h3)] at hR
  subst h3
  clear h2
  go_enter Tryz.func190,Tryz.ntmps190
  go_wp2_with fail
  go_quiet (fail)
  go_wp2_with(go_at_call 250;refine(zBS _ _ _ _ _).mono ?_;rw[hR];rintro e w1 ⟨rfl,hb⟩;obtain⟨l1,m1,rfl⟩:=zA0 hb;clear hb)
  all_goals go_returns
  all_goals exact⟨rfl,bel⟩
 rw[if_neg (by rintro(h|h);exact h2 h;exact h3 h)] at hR
 obtain⟨z,hzz⟩:∃ z,s.size=z:=⟨_,rfl⟩
 obtain⟨q,hq⟩:∃ q,text / z=q:=⟨_,rfl⟩
 have hqt:(text:Int).tdiv (z:Int)=(q:Int):=by rw[<- hq];exact(Int.ofNat_tdiv text z).symm
 have hqw:IntKind.i64.wrap (q:Int)=(q:Int):=by
  have:q<=text:=by rw[<- hq];exact Nat.div_le_self _ _
  rw[IntKind.wrap_i64];omega
 rw[hzz,hq] at hR
 by_cases h4:(q:Int)<n
 ·rw[if_pos h4] at hR
  subst hR
  clear h2
  go_enter Tryz.func190,Tryz.ntmps190
  go_wp2_with fail
  go_quiet (fail)
  go_wp2_with(go_at_call 21;refine mB (zA3 _ _) ?_;intro l1 m1)
  all_goals go_returns
  all_goals exact⟨rfl,bel⟩
 rw[if_neg h4] at hR
 obtain⟨m,rfl⟩:∃ m:Nat,n=(m:Int):=⟨n.toNat,by omega⟩
 rw[Int.toNat_natCast] at hR
 have hmz:s.size*m<=140737488355328:=by
  have h5:m<=q:=by omega
  have h6:z*m<=z*q:=Nat.mul_le_mul_left _ h5
  have h7:z*q<=text:=by rw[<- hq];exact Nat.mul_div_le text z
  rw[hzz];omega
 have HRP:=zh (fun w=>Any.strings_Repeat Tryz.lays105 Tryz.Builder_Extra_105 s m w (by omega) hmz)
 clear h2
 go_enter Tryz.func190,Tryz.ntmps190
 go_wp2_with fail
 go_quiet (fail)
 go_wp2_with fail
 go_region_with (first|(go_at_call 193;refine mB (HRP.out _) ?_;intro l1 m1)|(go_at_call 250;refine(zBS _ _ _ _ _).mono ?_;rw[<- repL,hR];rintro e w1 ⟨rfl,hb⟩;obtain⟨l2,m2,rfl⟩:=zA0 hb;clear hb))
 all_goals go_wp2
 all_goals go_returns
 all_goals exact⟨rfl,bel⟩
theorem trim_digits (s:ByteArray) (hs:s.size<=1048576) (w:World):Rt 312 #[.string s,.string ⟨#[48,49,50,51,52,53,54,55,56,57]⟩] w (.string ⟨(Lib.trimS s.data.toList digitL).toArray⟩) :=
 Any.strings_Trim_ascii Tryz.lays160 (fun w=>Tryz.zeroValue179 w) (by kernel_rfl) s ⟨#[48,49,50,51,52,53,54,55,56,57]⟩ w (by omega) (by decide) (by
  intro j b h
  have hd:digitL.contains b=true:=by
   have:b∈digitL:=List.mem_of_getElem? h
   simpa using this
  have:=digit_of hd
  omega)
def digitsX (s:ByteArray) (most:Nat):Bool:=decide (0<s.size)&&decide (s.size<=most)&&decide (Lib.trimS s.data.toList digitL=[])
theorem dec_digits (s:ByteArray) (hs:s.size<=1048576) (m:Nat) (w:World):Rt 300 #[.string s,.int .i64 m] w (.bool (digitsX s m)):=by
 have HT:=zh (trim_digits s hs)
 unfold digitsX
 obtain⟨t,ht⟩:∃ t,Lib.trimS s.data.toList digitL=t:=⟨_,rfl⟩
 rw[ht] at HT ⊢
 by_cases h1:0<s.size
 ·have h1I:(0:Int)<(s.size:Int):=by omega
  rw[decide_eq_true h1]
  by_cases h2:s.size<=m
  ·have h2I:(s.size:Int)<=(m:Int):=by omega
   rw[decide_eq_true h2]
   have he:t.isEmpty=decide (t=[]):=by cases t<;>simp
   go_enter Tryz.func300,Tryz.ntmps300
   go_wp2_with(go_at_call 312;refine mB (HT.out _) ?_;intro l1 m1)
   all_goals go_returns
   all_goals exact⟨by simp,bel⟩
  ·have h2I: ¬ (s.size:Int)<=(m:Int):=by omega
   rw[decide_eq_false h2]
   go_enter Tryz.func300,Tryz.ntmps300
   go_wp2_with(go_at_call 312;refine mB (HT.out _) ?_;intro l1 m1)
   all_goals go_returns
   all_goals exact⟨rfl,bel⟩
 ·have h1I: ¬ (0:Int)<(s.size:Int):=by omega
  rw[decide_eq_false h1]
  go_enter Tryz.func300,Tryz.ntmps300
  go_wp2_with(go_at_call 312;refine mB (HT.out _) ?_;intro l1 m1)
  all_goals go_returns
  all_goals exact⟨rfl,bel⟩
def spelt (a b:List UInt8):ByteArray:=⟨a.toArray⟩++⟨b.toArray⟩++(⟨#[48,48,48,48]⟩:ByteArray).extract b.length 4
def readN (low:Bool) (u:Nat):Int×Bool:=if low&&decide (u=0) then (0,false) else ((signX u low).1,decide ((signX u low).2=0))
def parseL (low:Bool) (a b:List UInt8) (pt:Bool):Int×Bool :=
 if digitsX ⟨a.toArray⟩ 15=false then (0,false)
 else if 1<a.length/\(a.getD 0 0).toNat=48 then (0,false)
 else if pt=true/\digitsX ⟨b.toArray⟩ 4=false then (0,false)
 else match Lib.parseUintB 64 (spelt a b).data.toList with
  | .ok u=>readN low u
  | _=>(0,false)
def parseX (s:ByteArray):Int×Bool :=
 parseL (Lib.hasPrefix s.data.toList [45]) (Lib.cut (Lib.trimPrefix s.data.toList [45]) [46]).1 (Lib.cut (Lib.trimPrefix s.data.toList [45]) [46]).2.1 (Lib.cut (Lib.trimPrefix s.data.toList [45]) [46]).2.2
theorem digitsX_of {l:List UInt8} {m:Nat} (h:digitsX ⟨l.toArray⟩ m=true):0<l.length/\l.length<=m/\∀ x∈l,48<=x.toNat/\x.toNat<=57:=by
 unfold digitsX at h
 simp only[Bool.and_eq_true,decide_eq_true_eq] at h
 obtain⟨⟨h1,h2⟩,h3⟩:=h
 exact⟨h1,h2,fun x hx=>digit_of (trimS_nil h3 x hx)⟩
theorem spelt_list (a b:List UInt8) (hb:b.length<=4):(spelt a b).data.toList=a++b++List.replicate (4-b.length) 48:=by
 have h:b.length=0∨b.length=1∨b.length=2∨b.length=3∨b.length=4:=by omega
 unfold spelt
 rcases h with h|h|h|h|h<;>rw[h]<;>simp[ByteArray.data_append]<;>rfl
theorem spelt_ok {a b:List UInt8} (ha:digitsX ⟨a.toArray⟩ 15=true) (hb:b=[]∨digitsX ⟨b.toArray⟩ 4=true):∃ u,Lib.parseUintB 64 (spelt a b).data.toList=.ok u/\u<18446744073709551616:=by
 obtain⟨a1,a2,a3⟩:=digitsX_of ha
 have hb2:b.length<=4/\∀ x∈b,48<=x.toNat/\x.toNat<=57:=by
  rcases hb with rfl|hb
  ·exact⟨by simp,fun x hx=>by cases hx⟩
  ·obtain⟨_,b2,b3⟩:=digitsX_of hb
   exact⟨b2,b3⟩
 rw[spelt_list a b hb2.1]
 refine parse_okB _ ?_ ?_ ?_
 ·intro h
  rw[(List.append_eq_nil_iff.1 (List.append_eq_nil_iff.1 h).1).1] at a1
  exact absurd a1 (by decide)
 ·intro x hx
  rcases List.mem_append.1 hx with hx|hx
  ·rcases List.mem_append.1 hx with hx|hx
   ·exact a3 x hx
   ·exact hb2.2 x hx
  ·rw[List.eq_of_mem_replicate hx]
   decide
 ·simp
  omega
theorem cut_miss (l t:List UInt8) (h:(Lib.cut l t).2.2=false):(Lib.cut l t).2.1=[]:=by
 unfold Lib.cut at h ⊢
 split at h
 ·cases h
 ·rename_i h0
  rw[if_neg h0]
theorem cut_snd_le (l t:List UInt8):(Lib.cut l t).2.1.length<=l.length:=by
 unfold Lib.cut
 split
 ·simp
 ·simp
theorem trimPrefix_le (l p:List UInt8):(Lib.trimPrefix l p).length<=l.length:=by
 unfold Lib.trimPrefix
 split
 ·simp
 ·simp
theorem cut_prefix (s:ByteArray) (w:World):Calls Tryz.prog 299 #[.string s,.string ⟨#[45]⟩] w fun e w'=>e=.returned (.tuple #[.string ⟨(Lib.trimPrefix s.data.toList [45]).toArray⟩,.bool (Lib.hasPrefix s.data.toList [45])])/\w'=w :=
 Tryz.strings_CutPrefix s ⟨#[45]⟩ w
theorem parse_uint (s:ByteArray) (hs:s.size<=10000000) (u:Nat) (h:Lib.parseUintB 64 s.data.toList=.ok u) (w:World):Rt 301 #[.string s,.int .i64 10,.int .i64 64] w (.tuple #[.int .u64 u,.nilIface]):=by
 refine(Tryz.strconv_ParseUint_10_at64_ok s (by omega) u h w).mono ?_
 rintro e w' ⟨rfl,rfl|rfl⟩
 ·exact⟨rfl,Below.refl _ _⟩
 ·exact⟨rfl,Lib.bytesWorld_below _ _ _⟩
theorem hd_index (a:List UInt8) (h:0<a.length) (w:World):(Instr.index 9 (.string ⟨a.toArray⟩) (.int .i64 0)).run Tryz.prog w=.ok (.int .u8 (((a.getD 0 0).toNat:Nat):Int)) w :=
 idx_string ⟨a.toArray⟩ 0 (by decide) h w
theorem dec_Parse (s:ByteArray) (hs:s.size<=1048576) (w:World) (hM:MaxL w):Rt 263 #[.string s] w (.tuple #[.int .i64 (parseX s).1,.bool (parseX s).2]):=by
 have HCP:=zh (cut_prefix s)
 unfold parseX
 have hpl:=trimPrefix_le s.data.toList [45]
 rw[show s.data.toList.length=s.size by rw[Array.length_toList];rfl] at hpl
 obtain⟨low,hlow⟩:∃ x,Lib.hasPrefix s.data.toList [45]=x:=⟨_,rfl⟩
 obtain⟨p,hp⟩:∃ x,Lib.trimPrefix s.data.toList [45]=x:=⟨_,rfl⟩
 rw[hlow,hp] at HCP ⊢
 rw[hp] at hpl
 clear hlow hp
 have HCT:=zh (cut_more p [46])
 have hal:=cut_fst_le p [46]
 have hbl:=cut_snd_le p [46]
 have hms:=cut_miss p [46]
 obtain⟨a,ha⟩:∃ x,(Lib.cut p [46]).1=x:=⟨_,rfl⟩
 obtain⟨b,hb⟩:∃ x,(Lib.cut p [46]).2.1=x:=⟨_,rfl⟩
 obtain⟨pt,hpt⟩:∃ x,(Lib.cut p [46]).2.2=x:=⟨_,rfl⟩
 rw[ha,hb,hpt] at HCT ⊢
 rw[ha] at hal
 rw[hb] at hbl hms
 rw[hpt] at hms
 clear ha hb hpt
 obtain⟨R,hR⟩:∃ R,parseL low a b pt=R:=⟨_,rfl⟩
 rw[hR]
 unfold parseL at hR
 have HMX:=zh hM
 have HDA:=zh (dec_digits ⟨a.toArray⟩ (by show a.length<=_;omega) 15)
 have HDB:=zh (dec_digits ⟨b.toArray⟩ (by show b.length<=_;omega) 4)
 clear hM
 have hasz:(⟨a.toArray⟩:ByteArray).size=a.length:=rfl
 obtain⟨da,hda⟩:∃ x,digitsX ⟨a.toArray⟩ 15=x:=⟨_,rfl⟩
 obtain⟨db,hdb⟩:∃ x,digitsX ⟨b.toArray⟩ 4=x:=⟨_,rfl⟩
 rw[show ((15:Nat):Int)=15 from rfl,hda] at HDA
 rw[show ((4:Nat):Int)=4 from rfl,hdb] at HDB
 rw[hda,hdb] at hR
 cases da with
 | false =>
   rw[if_pos rfl] at hR
   subst hR
   clear hda hdb hms
   go_enter Tryz.func263,Tryz.ntmps263
   go_wp2_with(first|(go_at_call 299;refine(HCP.out _).mono ?_;rintro e w1 ⟨rfl,rfl⟩)|(go_at_call 255;refine(HCT.out _ HMX.out (by omega)).mono ?_;rintro e w1 ⟨rfl,n1,rfl⟩)|(go_at_call_of 300 (Value.string ⟨a.toArray⟩);refine mB (HDA.out _) ?_;intro l1 m1)|(go_at_call_of 300 (Value.string ⟨b.toArray⟩);refine mB (HDB.out _) ?_;intro l2 m2)|(go_at_call 301;refine mB (HPU.out _) ?_;intro l3 m3)|(go_at_call 60;refine(HSG.out _).mono ?_;rintro e w1 ⟨rfl,rfl⟩))
   all_goals go_returns
   all_goals exact⟨rfl,bel⟩
 | true =>
   rw[if_neg (by decide)] at hR
   obtain⟨a1,a2,a3⟩:=digitsX_of hda
   have HIX:=zh (hd_index a a1)
   obtain⟨n,hn⟩:∃ n,a.length=n:=⟨_,rfl⟩
   obtain⟨z,hz⟩:∃ z,a.getD 0 0=z:=⟨_,rfl⟩
   rw[hn] at a1 a2 hal hasz hR
   rw[hz] at HIX hR
   obtain⟨y,hy⟩:∃ y:Nat,z.toNat=y:=⟨_,rfl⟩
   have hix:∀ w,(Instr.index 9 (.string ⟨a.toArray⟩) (.int .i64 0)).run Tryz.prog w=.ok (.int .u8 (y:Int)) w:=fun w=>by rw[HIX.out,hy]
   rw[hy] at hR
   have HA:=zh hda
   have HA3:=zh a3
   have HN:=zh hn
   clear hda a3 hn hz hy
   by_cases hlead:1<n/\y=48
   ·rw[if_pos hlead] at hR
    subst hR
    obtain⟨hn1,rfl⟩:=hlead
    have hn1I:(1:Int)<(n:Int):=by omega
    clear hms hdb
    go_enter Tryz.func263,Tryz.ntmps263
    go_wp2_with(first|(go_at_call 299;refine(HCP.out _).mono ?_;rintro e w1 ⟨rfl,rfl⟩)|(go_at_call 255;refine(HCT.out _ HMX.out (by omega)).mono ?_;rintro e w1 ⟨rfl,n1,rfl⟩)|(go_at_call_of 300 (Value.string ⟨a.toArray⟩);refine mB (HDA.out _) ?_;intro l1 m1)|(go_at_call_of 300 (Value.string ⟨b.toArray⟩);refine mB (HDB.out _) ?_;intro l2 m2)|(go_at_call 301;refine mB (HPU.out _) ?_;intro l3 m3)|(go_at_call 60;refine(HSG.out _).mono ?_;rintro e w1 ⟨rfl,rfl⟩))
    all_goals go_returns
    all_goals exact⟨rfl,bel⟩
   rw[if_neg hlead] at hR
   by_cases hpd:pt=true/\db=false
   ·rw[if_pos hpd] at hR
    subst hR
    obtain⟨rfl,rfl⟩:=hpd
    clear hms hdb
    by_cases hn1:1<n
    ·have hy2: ¬ ((y:Int)=48):=by omega
     have hn1I:(1:Int)<(n:Int):=by omega
     go_enter Tryz.func263,Tryz.ntmps263
     go_wp2_with(first|(go_at_call 299;refine(HCP.out _).mono ?_;rintro e w1 ⟨rfl,rfl⟩)|(go_at_call 255;refine(HCT.out _ HMX.out (by omega)).mono ?_;rintro e w1 ⟨rfl,n1,rfl⟩)|(go_at_call_of 300 (Value.string ⟨a.toArray⟩);refine mB (HDA.out _) ?_;intro l1 m1)|(go_at_call_of 300 (Value.string ⟨b.toArray⟩);refine mB (HDB.out _) ?_;intro l2 m2)|(go_at_call 301;refine mB (HPU.out _) ?_;intro l3 m3)|(go_at_call 60;refine(HSG.out _).mono ?_;rintro e w1 ⟨rfl,rfl⟩))
     all_goals go_returns
     all_goals exact⟨rfl,bel⟩
    ·have hn1I: ¬ (1:Int)<(n:Int):=by omega
     go_enter Tryz.func263,Tryz.ntmps263
     go_wp2_with(first|(go_at_call 299;refine(HCP.out _).mono ?_;rintro e w1 ⟨rfl,rfl⟩)|(go_at_call 255;refine(HCT.out _ HMX.out (by omega)).mono ?_;rintro e w1 ⟨rfl,n1,rfl⟩)|(go_at_call_of 300 (Value.string ⟨a.toArray⟩);refine mB (HDA.out _) ?_;intro l1 m1)|(go_at_call_of 300 (Value.string ⟨b.toArray⟩);refine mB (HDB.out _) ?_;intro l2 m2)|(go_at_call 301;refine mB (HPU.out _) ?_;intro l3 m3)|(go_at_call 60;refine(HSG.out _).mono ?_;rintro e w1 ⟨rfl,rfl⟩))
     all_goals go_returns
     all_goals exact⟨rfl,bel⟩
   rw[if_neg hpd] at hR
   have hbc:b=[]∨digitsX ⟨b.toArray⟩ 4=true:=by
    cases pt with
    | false=>exact .inl (hms rfl)
    | true=>cases db with
      | false=>exact absurd ⟨rfl,rfl⟩ hpd
      | true=>exact .inr hdb
   obtain⟨u,hu,hu64⟩:=spelt_ok HA.out hbc
   rw[hu] at hR
   have hb4:b.length<=4:=by
    rcases hbc with rfl|h
    ·simp
    ·exact(digitsX_of h).2.1
   have hsz:(spelt a b).size<=10000000:=by
    have h1:=congrArg List.length (spelt_list a b hb4)
    rw[Array.length_toList,List.length_append,List.length_append,List.length_replicate,HN.out] at h1
    have h2:(spelt a b).data.size=(spelt a b).size:=rfl
    omega
   have HPU:=zh (parse_uint (spelt a b) hsz u hu)
   have HSG:=zh (zBO u hu64 low)
   unfold spelt at HPU
   clear hu hsz hms
   obtain⟨m,hm⟩:∃ m,b.length=m:=⟨_,rfl⟩
   have hbsz:(⟨b.toArray⟩:ByteArray).size=m:=hm
   rw[hm] at hb4 HPU hbl
   have hb0:(0:Int)<=(m:Int):=by omega
   have hb4I:(m:Int)<=4:=by omega
   clear hbc hdb hm
   change readN low u=R at hR
   unfold readN at hR
   obtain⟨x,hx⟩:∃ x,(signX u low).1=x:=⟨_,rfl⟩
   obtain⟨c,hc⟩:∃ c,(signX u low).2=c:=⟨_,rfl⟩
   rw[hx,hc] at hR HSG
   clear hx hc
   have hpt:pt=false∨(pt=true/\db=true):=by
    cases pt with
    | false=>exact .inl rfl
    | true=>cases db with
      | false=>exact absurd ⟨rfl,rfl⟩ hpd
      | true=>exact .inr ⟨rfl,rfl⟩
   have hfirst:(1<n/\y≠48)∨¬ 1<n:=by
    by_cases h:1<n
    ·exact .inl ⟨h,fun h2=>hlead ⟨h,h2⟩⟩
    ·exact .inr h
   clear hpd hlead
   cases low with
   | false =>
     simp only[Bool.false_and,Bool.false_eq_true,if_false] at hR
     subst hR
     rcases hpt with rfl|⟨rfl,rfl⟩<;>rcases hfirst with ⟨hn1,hy⟩|hn1
     ·have hy2: ¬ ((y:Int)=48):=by omega
      have hn1I:(1:Int)<(n:Int):=by omega
      go_enter Tryz.func263,Tryz.ntmps263
      go_wp2_with(first|(go_at_call 299;refine(HCP.out _).mono ?_;rintro e w1 ⟨rfl,rfl⟩)|(go_at_call 255;refine(HCT.out _ HMX.out (by omega)).mono ?_;rintro e w1 ⟨rfl,n1,rfl⟩)|(go_at_call_of 300 (Value.string ⟨a.toArray⟩);refine mB (HDA.out _) ?_;intro l1 m1)|(go_at_call_of 300 (Value.string ⟨b.toArray⟩);refine mB (HDB.out _) ?_;intro l2 m2)|(go_at_call 301;refine mB (HPU.out _) ?_;intro l3 m3)|(go_at_call 60;refine(HSG.out _).mono ?_;rintro e w1 ⟨rfl,rfl⟩))
      all_goals go_returns
      all_goals exact⟨rfl,bel⟩
     ·have hn1I: ¬ (1:Int)<(n:Int):=by omega
      go_enter Tryz.func263,Tryz.ntmps263
      go_wp2_with(first|(go_at_call 299;refine(HCP.out _).mono ?_;rintro e w1 ⟨rfl,rfl⟩)|(go_at_call 255;refine(HCT.out _ HMX.out (by omega)).mono ?_;rintro e w1 ⟨rfl,n1,rfl⟩)|(go_at_call_of 300 (Value.string ⟨a.toArray⟩);refine mB (HDA.out _) ?_;intro l1 m1)|(go_at_call_of 300 (Value.string ⟨b.toArray⟩);refine mB (HDB.out _) ?_;intro l2 m2)|(go_at_call 301;refine mB (HPU.out _) ?_;intro l3 m3)|(go_at_call 60;refine(HSG.out _).mono ?_;rintro e w1 ⟨rfl,rfl⟩))
      all_goals go_returns
      all_goals exact⟨rfl,bel⟩
     ·have hy2: ¬ ((y:Int)=48):=by omega
      have hn1I:(1:Int)<(n:Int):=by omega
      go_enter Tryz.func263,Tryz.ntmps263
      go_wp2_with(first|(go_at_call 299;refine(HCP.out _).mono ?_;rintro e w1 ⟨rfl,rfl⟩)|(go_at_call 255;refine(HCT.out _ HMX.out (by omega)).mono ?_;rintro e w1 ⟨rfl,n1,rfl⟩)|(go_at_call_of 300 (Value.string ⟨a.toArray⟩);refine mB (HDA.out _) ?_;intro l1 m1)|(go_at_call_of 300 (Value.string ⟨b.toArray⟩);refine mB (HDB.out _) ?_;intro l2 m2)|(go_at_call 301;refine mB (HPU.out _) ?_;intro l3 m3)|(go_at_call 60;refine(HSG.out _).mono ?_;rintro e w1 ⟨rfl,rfl⟩))
      all_goals go_returns
      all_goals exact⟨rfl,bel⟩
     ·have hn1I: ¬ (1:Int)<(n:Int):=by omega
      go_enter Tryz.func263,Tryz.ntmps263
      go_wp2_with(first|(go_at_call 299;refine(HCP.out _).mono ?_;rintro e w1 ⟨rfl,rfl⟩)|(go_at_call 255;refine(HCT.out _ HMX.out (by omega)).mono ?_;rintro e w1 ⟨rfl,n1,rfl⟩)|(go_at_call_of 300 (Value.string ⟨a.toArray⟩);refine mB (HDA.out _) ?_;intro l1 m1)|(go_at_call_of 300 (Value.string ⟨b.toArray⟩);refine mB (HDB.out _) ?_;intro l2 m2)|(go_at_call 301;refine mB (HPU.out _) ?_;intro l3 m3)|(go_at_call 60;refine(HSG.out _).mono ?_;rintro e w1 ⟨rfl,rfl⟩))
      all_goals go_returns
      all_goals exact⟨rfl,bel⟩
   | true =>
     by_cases hu0:u=0
     ·subst hu0
      simp only[decide_true,Bool.and_self,if_true] at hR
      subst hR
      rcases hpt with rfl|⟨rfl,rfl⟩<;>rcases hfirst with ⟨hn1,hy⟩|hn1
      ·have hy2: ¬ ((y:Int)=48):=by omega
       have hn1I:(1:Int)<(n:Int):=by omega
       go_enter Tryz.func263,Tryz.ntmps263
       go_wp2_with(first|(go_at_call 299;refine(HCP.out _).mono ?_;rintro e w1 ⟨rfl,rfl⟩)|(go_at_call 255;refine(HCT.out _ HMX.out (by omega)).mono ?_;rintro e w1 ⟨rfl,n1,rfl⟩)|(go_at_call_of 300 (Value.string ⟨a.toArray⟩);refine mB (HDA.out _) ?_;intro l1 m1)|(go_at_call_of 300 (Value.string ⟨b.toArray⟩);refine mB (HDB.out _) ?_;intro l2 m2)|(go_at_call 301;refine mB (HPU.out _) ?_;intro l3 m3)|(go_at_call 60;refine(HSG.out _).mono ?_;rintro e w1 ⟨rfl,rfl⟩))
       all_goals go_returns
       all_goals exact⟨rfl,bel⟩
      ·have hn1I: ¬ (1:Int)<(n:Int):=by omega
       go_enter Tryz.func263,Tryz.ntmps263
       go_wp2_with(first|(go_at_call 299;refine(HCP.out _).mono ?_;rintro e w1 ⟨rfl,rfl⟩)|(go_at_call 255;refine(HCT.out _ HMX.out (by omega)).mono ?_;rintro e w1 ⟨rfl,n1,rfl⟩)|(go_at_call_of 300 (Value.string ⟨a.toArray⟩);refine mB (HDA.out _) ?_;intro l1 m1)|(go_at_call_of 300 (Value.string ⟨b.toArray⟩);refine mB (HDB.out _) ?_;intro l2 m2)|(go_at_call 301;refine mB (HPU.out _) ?_;intro l3 m3)|(go_at_call 60;refine(HSG.out _).mono ?_;rintro e w1 ⟨rfl,rfl⟩))
       all_goals go_returns
       all_goals exact⟨rfl,bel⟩
      ·have hy2: ¬ ((y:Int)=48):=by omega
       have hn1I:(1:Int)<(n:Int):=by omega
       go_enter Tryz.func263,Tryz.ntmps263
       go_wp2_with(first|(go_at_call 299;refine(HCP.out _).mono ?_;rintro e w1 ⟨rfl,rfl⟩)|(go_at_call 255;refine(HCT.out _ HMX.out (by omega)).mono ?_;rintro e w1 ⟨rfl,n1,rfl⟩)|(go_at_call_of 300 (Value.string ⟨a.toArray⟩);refine mB (HDA.out _) ?_;intro l1 m1)|(go_at_call_of 300 (Value.string ⟨b.toArray⟩);refine mB (HDB.out _) ?_;intro l2 m2)|(go_at_call 301;refine mB (HPU.out _) ?_;intro l3 m3)|(go_at_call 60;refine(HSG.out _).mono ?_;rintro e w1 ⟨rfl,rfl⟩))
       all_goals go_returns
       all_goals exact⟨rfl,bel⟩
      ·have hn1I: ¬ (1:Int)<(n:Int):=by omega
       go_enter Tryz.func263,Tryz.ntmps263
       go_wp2_with(first|(go_at_call 299;refine(HCP.out _).mono ?_;rintro e w1 ⟨rfl,rfl⟩)|(go_at_call 255;refine(HCT.out _ HMX.out (by omega)).mono ?_;rintro e w1 ⟨rfl,n1,rfl⟩)|(go_at_call_of 300 (Value.string ⟨a.toArray⟩);refine mB (HDA.out _) ?_;intro l1 m1)|(go_at_call_of 300 (Value.string ⟨b.toArray⟩);refine mB (HDB.out _) ?_;intro l2 m2)|(go_at_call 301;refine mB (HPU.out _) ?_;intro l3 m3)|(go_at_call 60;refine(HSG.out _).mono ?_;rintro e w1 ⟨rfl,rfl⟩))
       all_goals go_returns
       all_goals exact⟨rfl,bel⟩
     ·have huI: ¬ (u:Int)=0:=by omega
      simp only[hu0,decide_false,Bool.and_false,Bool.false_eq_true,if_false] at hR
      subst hR
      rcases hpt with rfl|⟨rfl,rfl⟩<;>rcases hfirst with ⟨hn1,hy⟩|hn1
      ·have hy2: ¬ ((y:Int)=48):=by omega
       have hn1I:(1:Int)<(n:Int):=by omega
       go_enter Tryz.func263,Tryz.ntmps263
       go_wp2_with(first|(go_at_call 299;refine(HCP.out _).mono ?_;rintro e w1 ⟨rfl,rfl⟩)|(go_at_call 255;refine(HCT.out _ HMX.out (by omega)).mono ?_;rintro e w1 ⟨rfl,n1,rfl⟩)|(go_at_call_of 300 (Value.string ⟨a.toArray⟩);refine mB (HDA.out _) ?_;intro l1 m1)|(go_at_call_of 300 (Value.string ⟨b.toArray⟩);refine mB (HDB.out _) ?_;intro l2 m2)|(go_at_call 301;refine mB (HPU.out _) ?_;intro l3 m3)|(go_at_call 60;refine(HSG.out _).mono ?_;rintro e w1 ⟨rfl,rfl⟩))
       all_goals go_returns
       all_goals exact⟨rfl,bel⟩
      ·have hn1I: ¬ (1:Int)<(n:Int):=by omega
       go_enter Tryz.func263,Tryz.ntmps263
       go_wp2_with(first|(go_at_call 299;refine(HCP.out _).mono ?_;rintro e w1 ⟨rfl,rfl⟩)|(go_at_call 255;refine(HCT.out _ HMX.out (by omega)).mono ?_;rintro e w1 ⟨rfl,n1,rfl⟩)|(go_at_call_of 300 (Value.string ⟨a.toArray⟩);refine mB (HDA.out _) ?_;intro l1 m1)|(go_at_call_of 300 (Value.string ⟨b.toArray⟩);refine mB (HDB.out _) ?_;intro l2 m2)|(go_at_call 301;refine mB (HPU.out _) ?_;intro l3 m3)|(go_at_call 60;refine(HSG.out _).mono ?_;rintro e w1 ⟨rfl,rfl⟩))
       all_goals go_returns
       all_goals exact⟨rfl,bel⟩
      ·have hy2: ¬ ((y:Int)=48):=by omega
       have hn1I:(1:Int)<(n:Int):=by omega
       go_enter Tryz.func263,Tryz.ntmps263
       go_wp2_with(first|(go_at_call 299;refine(HCP.out _).mono ?_;rintro e w1 ⟨rfl,rfl⟩)|(go_at_call 255;refine(HCT.out _ HMX.out (by omega)).mono ?_;rintro e w1 ⟨rfl,n1,rfl⟩)|(go_at_call_of 300 (Value.string ⟨a.toArray⟩);refine mB (HDA.out _) ?_;intro l1 m1)|(go_at_call_of 300 (Value.string ⟨b.toArray⟩);refine mB (HDB.out _) ?_;intro l2 m2)|(go_at_call 301;refine mB (HPU.out _) ?_;intro l3 m3)|(go_at_call 60;refine(HSG.out _).mono ?_;rintro e w1 ⟨rfl,rfl⟩))
       all_goals go_returns
       all_goals exact⟨rfl,bel⟩
      ·have hn1I: ¬ (1:Int)<(n:Int):=by omega
       go_enter Tryz.func263,Tryz.ntmps263
       go_wp2_with(first|(go_at_call 299;refine(HCP.out _).mono ?_;rintro e w1 ⟨rfl,rfl⟩)|(go_at_call 255;refine(HCT.out _ HMX.out (by omega)).mono ?_;rintro e w1 ⟨rfl,n1,rfl⟩)|(go_at_call_of 300 (Value.string ⟨a.toArray⟩);refine mB (HDA.out _) ?_;intro l1 m1)|(go_at_call_of 300 (Value.string ⟨b.toArray⟩);refine mB (HDB.out _) ?_;intro l2 m2)|(go_at_call 301;refine mB (HPU.out _) ?_;intro l3 m3)|(go_at_call 60;refine(HSG.out _).mono ?_;rintro e w1 ⟨rfl,rfl⟩))
       all_goals go_returns
       all_goals exact⟨rfl,bel⟩
def numTX (s:ByteArray):V:=if (parseX s).2 then numG (parseX s).1 else errG 4
theorem texts_num (gs c1 k:Nat) (hk:0<k) (s:ByteArray) (hs:s.size<=1048576) (nv:Value) (text:Int) (w:World) (hM:MaxL w) (h0:w.cell? ⟨gs,0,none⟩=some (.string s)) :
  Rt 199 #[.agg #[.slice (some ⟨gs,0,none⟩) k c1,nv,.int .i64 text]] w (vG (numTX s)):=by
 have hl:=cltK h0
 have hl1:gs<w.heap.size+1:=by omega
 have hl2:gs<w.heap.size+1+1:=by omega
 have hk2:(0:Int)<(k:Int):=by omega
 have HMX:=zh hM
 have HP:=zh (dec_Parse s hs)
 unfold numTX
 obtain⟨x,hx⟩:∃ x,(parseX s).1=x:=⟨_,rfl⟩
 obtain⟨ok,hok⟩:∃ x,(parseX s).2=x:=⟨_,rfl⟩
 rw[hx,hok] at HP ⊢
 clear hM hx hok
 cases ok
 all_goals go_enter Tryz.func199,Tryz.ntmps199
 all_goals go_wp2_with(first|(go_at_call 263;refine mB (HP.out _ (HMX.out.below bel)) ?_;intro l1 m1)|(go_at_call 21;refine mB (zA3 _ _) ?_;intro l2 m2)|(go_at_call 55;refine mB (zAq _ _) ?_;intro l2 m2))
 all_goals go_returns
 all_goals exact⟨rfl,bel⟩
end Go.Proofs.YtppghgnhlgoagaaGreatDoor
