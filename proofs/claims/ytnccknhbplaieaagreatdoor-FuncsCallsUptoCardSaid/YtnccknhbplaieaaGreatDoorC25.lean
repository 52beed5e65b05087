/- Parts. -/
import Derived.Test.YtnccknhbplaieaaGreatDoorC23
import Derived.Test.YtnccknhbplaieaaGreatDoorC24
set_option linter.all false
set_option maxRecDepth 100000
set_option maxHeartbeats 4000000
namespace Go.Proofs.YtnccknhbplaieaaGreatDoor
open Go Go.RowKit Go.Proofs.Tryz
open Go.Lib renaming hid->zh
open _root_.UInt8 renaming ofNat->Q3
open _root_.Int renaming toNat_natCast->Q4
theorem one_back {w:World} {g m:Nat} (hg:w.heap.size=g) (hm:m<256):(convert 98 9 (.slice (some ⟨g,0,none⟩) 1 1)).run prog (w.alloc (.cells #[.int .u8 (m:Int)] 5)).drew=.ok (.string ⟨#[Q3 m]⟩) (w.alloc (.cells #[.int .u8 (m:Int)] 5)).drew:=by
 subst hg;refine run_convert_bytes_back _ _ _ 5 ⟨w.heap.size,0,none⟩ 1 [Q3 m] underlying98 underlying5 underlying9 (fun j hj=> ?_);obtain rfl:j=0:=by simpa using hj
 have e:(⟨w.heap.size,0,none⟩:Addr).add 0=⟨w.heap.size,0,none⟩:=rfl;rw[e];have h2:(Q3 m).toNat=m:=by simp;omega
 have h3:(w.alloc (.cells #[.int .u8 (m:Int)] 5)).cell? ⟨w.heap.size,0,none⟩=some (.int .u8 (m:Int)):=by
  rw[cell_of_row (w.alloc (.cells #[.int .u8 (m:Int)] 5)) w.heap.size 0 #[.int .u8 (m:Int)] 5 (0,0) (heap_alloc_new w _)]
  rfl
 simp only[List.getElem_cons_zero,h2];exact h3
theorem texts_char (gn c2 k:Nat) (hk:0<k) (n:Int) (hn:Is64 n) (sv:Value) (text:Int) (w:World) (hc:w.cell? ⟨gn,0,none⟩=some (.int .i64 n)) :
  Rt 224 #[.agg #[sv,.slice (some ⟨gn,0,none⟩) k c2,.int .i64 text]] w (vG (charX text n)):=by
 have hln:=cltK hc;have hd:gn<w.heap.size+1:=by omega
 have he:gn<w.heap.size+1+1:=by omega
 have hk2:(0:Int)<(k:Int):=by omega
 obtain⟨R,hR⟩:=lt_ (charX text n);rw[hR];unfold charX at hR;unfold Is64 at hn;by_cases h1:n<0
 rw[if_pos (.inl h1)] at hR
 rotate_left
 by_cases h2:255<n
 rw[if_pos (.inr h2)] at hR
 rotate_left
 ·rw[if_neg (by omega)] at hR;obtain⟨m,rfl⟩:∃ m:Nat,n=(m:Int):=⟨n.toNat,by omega⟩
  have hb:IntKind.u8.wrap (m:Int)=(m:Int):=by rw[IntKind.wrap_u8];omega
  have ha:((Q3 m).toNat:Int)=(m:Int):=by simp;omega
  have hcv:=one_back (w:=((w.alloc (.cells #[sv,.slice (some ⟨gn,0,none⟩) k c2,.int .i64 text] 178)).alloc zObj)) (g:=w.heap.size+1+1) (m:=m) (by simp) (by omega);rw[Q4] at hR;clear hn ha;go_enter func224,ntmps224;go_wp2_with fail;go_region_with (first|(go_at_call 281;refine(zBi _ _ _ _ _).mono ?_;rw[hR];rintro e w1 ⟨rfl,hb⟩;obtain⟨l1,m1,rfl⟩:=zA0 hb;clear hb))
  all_goals go_wp2;all_goals(go_returns;exact rb_)
 all_goals
  subst hR;go_enter func224,ntmps224;go_wp2_with(go_at_call 13;refine mB (zA3 _ _) ?_;intro l1 m1)
  all_goals(go_returns;exact rb_)
def repL (s:ByteArray) (n:Nat):ByteArray:=⟨(Lib.repeatL s.data.toList n).toArray⟩
def reptX (text:Nat) (s:ByteArray) (n:Int):V :=
 if n<0 then errG 8 else if s.data.toList=[]∨n=0 then toldX text ⟨#[]⟩
 else if ((text / s.size:Nat):Int)<n then errG 7 else toldX text (repL s n.toNat)
theorem texts_rept (gs c1 gn c2 k j:Nat) (hk:0<k) (hj:0<j) (s:ByteArray) (n:Int) (hn:Is64 n) (hs:s.size<=1048576) (text:Nat) (ht:text<=100000) (w:World) (h0:w.cell? ⟨gs,0,none⟩=some (.string s)) (hc:w.cell? ⟨gn,0,none⟩=some (.int .i64 n)) :
  Rt 218 #[.agg #[.slice (some ⟨gs,0,none⟩) k c1,.slice (some ⟨gn,0,none⟩) j c2,.int .i64 text]] w (vG (reptX text s n)):=by
 have hl:=cltK h0;have hl1:gs<w.heap.size+1:=by omega
 have hl2:gs<w.heap.size+1+1:=by omega
 have hln:=cltK hc;have he:gn<w.heap.size+1:=by omega
 have hf:gn<w.heap.size+1+1:=by omega
 have hk2:(0:Int)<(k:Int):=by omega
 have hj2:(0:Int)<(j:Int):=by omega
 obtain⟨R,hR⟩:=lt_ (reptX text s n);rw[hR];unfold reptX at hR;unfold Is64 at hn;by_cases h1:n<0
 rw[if_pos h1] at hR;subst hR
 rotate_left
 rw[if_neg h1] at hR;by_cases h2:s.data.toList=[]
 rw[if_pos (.inl h2)] at hR;obtain rfl:s=⟨#[]⟩:=by rw[<- mk_data s,h2]
 clear h2
 rotate_left
 have hz:0<s.size:=by
  have h3:s.data.toList.length=s.size:=by rw[Array.length_toList];rfl
  have h4:=List.length_pos_iff.2 h2;omega
 have hse:s.toList.isEmpty=false:=by
  rw[ByteArray.toList_eq];cases hh:s.data.toList with
  | nil=>exact absurd hh h2
  | cons a r=>rfl
 by_cases h3:n=0
 rw[if_pos (.inr h3)] at hR;subst h3;clear h2
 rotate_left
 rw[if_neg (by rintro(h|h);exact h2 h;exact h3 h)] at hR;obtain⟨z,ha⟩:=lt_ s.size;obtain⟨q,hq⟩:=lt_ (text / z);have hqt:(text:Int).tdiv (z:Int)=(q:Int):=by rw[<- hq];exact(Int.ofNat_tdiv text z).symm
 have hqw:IntKind.i64.wrap (q:Int)=(q:Int):=by
  have:q<=text:=by rw[<- hq];exact Nat.div_le_self _ _
  rw[IntKind.wrap_i64];omega
 rw[ha,hq] at hR;by_cases h4:(q:Int)<n
 rw[if_pos h4] at hR;subst hR;clear h2
 rotate_left
 ·rw[if_neg h4] at hR;obtain⟨m,rfl⟩:∃ m:Nat,n=(m:Int):=⟨n.toNat,by omega⟩
  rw[Q4] at hR;have hg:s.size*m<=140737488355328:=by
   have h5:m<=q:=by omega
   have h6:z*m<=z*q:=Nat.mul_le_mul_left _ h5;have h7:z*q<=text:=by rw[<- hq];exact Nat.mul_div_le text z
   rw[ha];omega
  have hd:=zh (fun w=>Any.strings_Repeat Tryz.lays105 Tryz.Builder_Extra_105 s m w (by omega) hg);clear h2;go_enter func218,ntmps218;go_wp2_with fail;go_quiet (fail);go_wp2_with fail;go_region_with (first|(go_at_call 221;refine mB (hd.out _) ?_;intro l1 m1)|(go_at_call 281;refine(zBi _ _ _ _ _).mono ?_;rw[<- repL,hR];rintro e w1 ⟨rfl,hb⟩;obtain⟨l2,m2,rfl⟩:=zA0 hb;clear hb))
  all_goals go_wp2;all_goals(go_returns;exact rb_)
 all_goals
  go_enter func218,ntmps218;go_wp2_with fail;go_quiet (fail);go_wp2_with(first|(go_at_call 13;refine mB (zA3 _ _) ?_;intro l1 m1)|(go_at_call 281;refine(zBi _ _ _ _ _).mono ?_;rw[hR];rintro e w1 ⟨rfl,hb⟩;obtain⟨l1,m1,rfl⟩:=zA0 hb;clear hb))
  all_goals(go_returns;exact rb_)
def numTX (s:ByteArray):V:=if (parseX s).2 then numG (parseX s).1 else errG 4
theorem texts_num (gs c1 k:Nat) (hk:0<k) (s:ByteArray) (hs:s.size<=1048576) (nv:Value) (text:Int) (w:World) (hM:MaxL w) (h0:w.cell? ⟨gs,0,none⟩=some (.string s)) :
  Rt 227 #[.agg #[.slice (some ⟨gs,0,none⟩) k c1,nv,.int .i64 text]] w (vG (numTX s)):=by
 have hl:=cltK h0;have hl1:gs<w.heap.size+1:=by omega
 have hl2:gs<w.heap.size+1+1:=by omega
 have hk2:(0:Int)<(k:Int):=by omega
 have hb:=zh hM;have HP:=zh (dec_Parse s hs);unfold numTX;obtain⟨x,hx⟩:=lt_ ((parseX s).1);obtain⟨ok,ha⟩:=lt_ ((parseX s).2);rw[hx,ha] at HP ⊢;clear hM hx ha;cases ok;all_goals go_enter func227,ntmps227;all_goals go_wp2_with(first|(go_at_call 294;refine mB (HP.out _ (hb.out.below bel)) ?_;intro l1 m1)|(go_at_call 13;refine mB (zA3 _ _) ?_;intro l2 m2)|(go_at_call 140;refine mB (zB2 _ _) ?_;intro l2 m2))
 all_goals(go_returns;exact rb_)
end Go.Proofs.YtnccknhbplaieaaGreatDoor
