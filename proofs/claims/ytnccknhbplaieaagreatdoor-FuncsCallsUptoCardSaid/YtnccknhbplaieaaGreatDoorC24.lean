/- Parts. -/
import Derived.Test.YtnccknhbplaieaaGreatDoorC20
import Derived.Test.YtnccknhbplaieaaGreatDoorC08
set_option linter.all false
set_option maxRecDepth 100000
set_option maxHeartbeats 4000000
namespace Go.Proofs.YtnccknhbplaieaaGreatDoor
open Go Go.RowKit Go.Proofs.Tryz
open Go.Lib renaming hid->zh
open _root_.List renaming append_eq_nil_iff->Q3,length_append->Q4
open _root_.Bool renaming false_eq_true->Q5
theorem trim_digits (s:ByteArray) (hs:s.size<=1048576) (w:World):Rt 351 #[.string s,.string ⟨#[48,49,50,51,52,53,54,55,56,57]⟩] w (.string ⟨(Lib.trimS s.data.toList digitL).toArray⟩) :=
 Any.strings_Trim_ascii Tryz.lays160 (fun w=>Tryz.zeroValue291 w) (by kernel_rfl) s ⟨#[48,49,50,51,52,53,54,55,56,57]⟩ w (by omega) (by decide) (by
  intro j b h;have hd:digitL.contains b=true:=by
   have:b∈digitL:=List.mem_of_getElem? h
   simpa using this
  have:=digit_of hd;omega)
def digitsX (s:ByteArray) (most:Nat):Bool:=decide (0<s.size)&&decide (s.size<=most)&&decide (Lib.trimS s.data.toList digitL=[])
theorem dec_digits (s:ByteArray) (hs:s.size<=1048576) (m:Nat) (w:World):Rt 330 #[.string s,.int .i64 m] w (.bool (digitsX s m)):=by
 have HT:=zh (trim_digits s hs);unfold digitsX;obtain⟨t,ht⟩:=lt_ (Lib.trimS s.data.toList digitL);rw[ht] at HT ⊢;by_cases h1:0<s.size
 have ha:(0:Int)<(s.size:Int):=by omega
 rw[decide_eq_true h1];by_cases h2:s.size<=m
 ·have hb:(s.size:Int)<=(m:Int):=by omega
  rw[decide_eq_true h2];have he:t.isEmpty=decide (t=[]):=by cases t<;>simp
  go_enter func330,ntmps330;go_wp2_with(go_at_call 351;refine mB (HT.out _) ?_;intro l1 m1)
  all_goals(go_returns;exact⟨by simp,bel⟩)
 have hb: ¬ (s.size:Int)<=(m:Int):=by omega
 rw[decide_eq_false h2]
 rotate_left
 have ha: ¬ (0:Int)<(s.size:Int):=by omega
 rw[decide_eq_false h1];all_goals
  go_enter func330,ntmps330;go_wp2_with(go_at_call 351;refine mB (HT.out _) ?_;intro l1 m1)
  all_goals(go_returns;exact rb_)
def spelt (a b:List UInt8):ByteArray:=⟨a.toArray⟩++⟨b.toArray⟩++(⟨#[48,48,48,48]⟩:ByteArray).extract b.length 4
def readN (low:Bool) (u:Nat):Int×Bool:=if low&&decide (u=0) then (0,false) else ((signX u low).1,decide ((signX u low).2=0))
def parseL (low:Bool) (a b:List UInt8) (pt:Bool):Int×Bool :=
 if digitsX ⟨a.toArray⟩ 15=false then (0,false)
 else if 1<a.length/\(a.getD 0 0).toNat=48 then (0,false)
 else if pt=true/\digitsX ⟨b.toArray⟩ 4=false then (0,false)
 else match Lib.parseUintB 64 (spelt a b).data.toList with
  | .ok u=>readN low u
  | _=>(0,false)
def parseX (s:ByteArray):Int×Bool :=
 parseL (Lib.hasPrefix s.data.toList [45]) (Lib.cut (Lib.trimPrefix s.data.toList [45]) [46]).1 (Lib.cut (Lib.trimPrefix s.data.toList [45]) [46]).2.1 (Lib.cut (Lib.trimPrefix s.data.toList [45]) [46]).2.2
theorem digitsX_of {l:List UInt8} {m:Nat} (h:digitsX ⟨l.toArray⟩ m=true):0<l.length/\l.length<=m/\∀ x∈l,48<=x.toNat/\x.toNat<=57:=by
 unfold digitsX at h;simp only[Bool.and_eq_true,decide_eq_true_eq] at h;obtain⟨⟨h1,h2⟩,h3⟩:=h;exact⟨h1,h2,fun x hx=>digit_of (trimS_nil h3 x hx)⟩
theorem spelt_list (a b:List UInt8) (hb:b.length<=4):(spelt a b).data.toList=a++b++List.replicate (4-b.length) 48:=by
 have h:b.length=0∨b.length=1∨b.length=2∨b.length=3∨b.length=4:=by omega
 unfold spelt;rcases h with h|h|h|h|h<;>rw[h]<;>simp[ByteArray.data_append]<;>rfl
theorem spelt_ok {a b:List UInt8} (ha:digitsX ⟨a.toArray⟩ 15=true) (hb:b=[]∨digitsX ⟨b.toArray⟩ 4=true):∃ u,Lib.parseUintB 64 (spelt a b).data.toList=.ok u/\u<18446744073709551616:=by
 obtain⟨a1,a2,a3⟩:=digitsX_of ha;have hc:b.length<=4/\∀ x∈b,48<=x.toNat/\x.toNat<=57:=by
  rcases hb with rfl|hb
  ·exact⟨by simp,fun x hx=>by cases hx⟩
  ·obtain⟨_,b2,b3⟩:=digitsX_of hb;exact⟨b2,b3⟩
 rw[spelt_list a b hc.1];refine parse_okB _ ?_ ?_ ?_
 ·intro h;rw[(Q3.1 (Q3.1 h).1).1] at a1;exact absurd a1 (by decide)
 ·intro x hx;rcases List.mem_append.1 hx with hx|hx
  ·rcases List.mem_append.1 hx with hx|hx
   ·exact a3 x hx
   ·exact hc.2 x hx
  ·rw[List.eq_of_mem_replicate hx]
   decide
 ·simp;omega
theorem cut_miss (l t:List UInt8) (h:(Lib.cut l t).2.2=false):(Lib.cut l t).2.1=[]:=by
 unfold Lib.cut at h ⊢;split at h
 ·cases h
 ·rename_i h0;rw[if_neg h0]
theorem cut_snd_le (l t:List UInt8):(Lib.cut l t).2.1.length<=l.length:=by
 unfold Lib.cut;split
 ·simp
 ·simp
theorem trimPrefix_le (l p:List UInt8):(Lib.trimPrefix l p).length<=l.length:=by
 unfold Lib.trimPrefix;split
 ·simp
 ·simp
theorem cut_prefix (s:ByteArray) (w:World):Calls prog 329 #[.string s,.string ⟨#[45]⟩] w fun e w'=>e=.returned (.tuple #[.string ⟨(Lib.trimPrefix s.data.toList [45]).toArray⟩,.bool (Lib.hasPrefix s.data.toList [45])])/\w'=w :=
 Tryz.strings_CutPrefix s ⟨#[45]⟩ w
theorem parse_uint (s:ByteArray) (hs:s.size<=10000000) (u:Nat) (h:Lib.parseUintB 64 s.data.toList=.ok u) (w:World):Rt 331 #[.string s,.int .i64 10,.int .i64 64] w (.tuple #[.int .u64 u,.nilIface]):=by
 refine(Tryz.strconv_ParseUint_10_at64_ok s (by omega) u h w).mono ?_;rintro e w' ⟨rfl,rfl|rfl⟩
 ·exact⟨rfl,Below.refl _ _⟩
 ·exact⟨rfl,Lib.bytesWorld_below _ _ _⟩
theorem hd_index (a:List UInt8) (h:0<a.length) (w:World):(Instr.index 9 (.string ⟨a.toArray⟩) (.int .i64 0)).run prog w=.ok (.int .u8 (((a.getD 0 0).toNat:Nat):Int)) w :=
 idx_string ⟨a.toArray⟩ 0 (by decide) h w
theorem dec_Parse (s:ByteArray) (hs:s.size<=1048576) (w:World) (hM:MaxL w):Rt 294 #[.string s] w (.tuple #[.int .i64 (parseX s).1,.bool (parseX s).2]):=by
 have hv:=zh (cut_prefix s);unfold parseX;have hH:=trimPrefix_le s.data.toList [45];rw[show s.data.toList.length=s.size by rw[Array.length_toList];rfl] at hH;obtain⟨low,hl⟩:=lt_ (Lib.hasPrefix s.data.toList [45]);obtain⟨p,hp⟩:=lt_ (Lib.trimPrefix s.data.toList [45]);rw[hl,hp] at hv ⊢;rw[hp] at hH;clear hl hp;have hw:=zh (cut_more p [46]);have hE:=cut_fst_le p [46];have hG:=cut_snd_le p [46];have hg:=cut_miss p [46];obtain⟨a,ha⟩:=lt_ ((Lib.cut p [46]).1);obtain⟨b,hb⟩:=lt_ ((Lib.cut p [46]).2.1);obtain⟨pt,hi⟩:=lt_ ((Lib.cut p [46]).2.2);rw[ha,hb,hi] at hw ⊢;rw[ha] at hE;rw[hb] at hG hg;rw[hi] at hg;clear ha hb hi;obtain⟨R,hR⟩:=lt_ (parseL low a b pt);rw[hR];unfold parseL at hR;have hJ:=zh hM;have hA:=zh (dec_digits ⟨a.toArray⟩ (by show a.length<=_;omega) 15);have hB:=zh (dec_digits ⟨b.toArray⟩ (by show b.length<=_;omega) 4);clear hM;have hq:(⟨a.toArray⟩:ByteArray).size=a.length:=rfl;obtain⟨da,hj⟩:=lt_ (digitsX ⟨a.toArray⟩ 15);obtain⟨db,hf⟩:=lt_ (digitsX ⟨b.toArray⟩ 4);rw[show ((15:Nat):Int)=15 from rfl,hj] at hA;rw[show ((4:Nat):Int)=4 from rfl,hf] at hB;rw[hj,hf] at hR;cases da;rw[if_pos rfl] at hR;subst hR;clear hj hf hg
 rotate_left
 rw[if_neg (by decide)] at hR;obtain⟨a1,a2,a3⟩:=digitsX_of hj;have hC:=zh (hd_index a a1);obtain⟨n,hn⟩:=lt_ a.length;obtain⟨z,hz⟩:=lt_ (a.getD 0 0);rw[hn] at a1 a2 hE hq hR;rw[hz] at hC hR;obtain⟨y,hy⟩:=lt_ z.toNat;have hix:∀ w,(Instr.index 9 (.string ⟨a.toArray⟩) (.int .i64 0)).run prog w=.ok (.int .u8 (y:Int)) w:=fun w=>by rw[hC.out,hy]
 rw[hy] at hR;have HA:=zh hj;have HA3:=zh a3;have HN:=zh hn;clear hj a3 hn hz hy;by_cases hlead:1<n/\y=48
 rw[if_pos hlead] at hR;subst hR;obtain⟨hh,rfl⟩:=hlead;have hd:(1:Int)<(n:Int):=by omega
 clear hg hf
 rotate_left
 rw[if_neg hlead] at hR;by_cases hpd:pt=true/\db=false
 rw[if_pos hpd] at hR;subst hR;obtain⟨rfl,rfl⟩:=hpd;clear hg hf;by_cases hh:1<n
 have hk: ¬ ((y:Int)=48):=by omega
 have hd:(1:Int)<(n:Int):=by omega
 rotate_left
 have hd: ¬ (1:Int)<(n:Int):=by omega
 rotate_left
 rw[if_neg hpd] at hR;have hr:b=[]∨digitsX ⟨b.toArray⟩ 4=true:=by
  cases pt with
  | false=>exact .inl (hg rfl)
  | true=>cases db with
    | false=>exact absurd ⟨rfl,rfl⟩ hpd
    | true=>exact .inr hf
 obtain⟨u,hu,ht⟩:=spelt_ok HA.out hr;rw[hu] at hR;have hF:b.length<=4:=by
  rcases hr with rfl|h
  ·simp
  ·exact(digitsX_of h).2.1
 have hI:(spelt a b).size<=10000000:=by
  have h1:=congrArg List.length (spelt_list a b hF);rw[Array.length_toList,Q4,Q4,List.length_replicate,HN.out] at h1;have h2:(spelt a b).data.size=(spelt a b).size:=rfl;omega
 have ho:=zh (parse_uint (spelt a b) hI u hu);have hD:=zh (dec_signed u ht low);unfold spelt at ho;clear hu hI hg;obtain⟨m,hm⟩:=lt_ b.length;have hL:(⟨b.toArray⟩:ByteArray).size=m:=hm;rw[hm] at hF ho hG;have hb0:(0:Int)<=(m:Int):=by omega
 have hK:(m:Int)<=4:=by omega
 clear hr hf hm
 change readN low u=R at hR
 unfold readN at hR;obtain⟨x,hx⟩:=lt_ ((signX u low).1);obtain⟨c,hc⟩:=lt_ ((signX u low).2);rw[hx,hc] at hR hD;clear hx hc;have hi:pt=false∨(pt=true/\db=true):=by
  cases pt with
  | false=>exact .inl rfl
  | true=>cases db with
    | false=>exact absurd ⟨rfl,rfl⟩ hpd
    | true=>exact .inr ⟨rfl,rfl⟩
 have he:(1<n/\y≠48)∨¬ 1<n:=by
  by_cases h:1<n
  ·exact .inl ⟨h,fun h2=>hlead ⟨h,h2⟩⟩
  ·exact .inr h
 clear hpd hlead;cases low;simp only[Bool.false_and,Q5,if_false] at hR;subst hR;rcases hi with rfl|⟨rfl,rfl⟩<;>rcases he with ⟨hh,hy⟩|hh;have hk: ¬ ((y:Int)=48):=by omega
 have hd:(1:Int)<(n:Int):=by omega
 rotate_left
 have hd: ¬ (1:Int)<(n:Int):=by omega
 rotate_left
 have hk: ¬ ((y:Int)=48):=by omega
 have hd:(1:Int)<(n:Int):=by omega
 rotate_left
 have hd: ¬ (1:Int)<(n:Int):=by omega
 rotate_left
 by_cases hu0:u=0
 subst hu0;simp only[decide_true,Bool.and_self,if_true] at hR;subst hR;rcases hi with rfl|⟨rfl,rfl⟩<;>rcases he with ⟨hh,hy⟩|hh;have hk: ¬ ((y:Int)=48):=by omega
 have hd:(1:Int)<(n:Int):=by omega
 rotate_left
 have hd: ¬ (1:Int)<(n:Int):=by omega
 rotate_left
 have hk: ¬ ((y:Int)=48):=by omega
 have hd:(1:Int)<(n:Int):=by omega
 rotate_left
 have hd: ¬ (1:Int)<(n:Int):=by omega
 rotate_left
 have huI: ¬ (u:Int)=0:=by omega
 simp only[hu0,decide_false,Bool.and_false,Q5,if_false] at hR;subst hR;rcases hi with rfl|⟨rfl,rfl⟩<;>rcases he with ⟨hh,hy⟩|hh;have hk: ¬ ((y:Int)=48):=by omega
 have hd:(1:Int)<(n:Int):=by omega
 rotate_left
 have hd: ¬ (1:Int)<(n:Int):=by omega
 rotate_left
 have hk: ¬ ((y:Int)=48):=by omega
 have hd:(1:Int)<(n:Int):=by omega
 rotate_left
 have hd: ¬ (1:Int)<(n:Int):=by omega
 all_goals
  go_enter func294,ntmps294;go_wp2_with(first|(go_at_call 329;refine(hv.out _).mono ?_;rintro e w1 ⟨rfl,rfl⟩)|(go_at_call 286;refine(hw.out _ hJ.out (by omega)).mono ?_;rintro e w1 ⟨rfl,n1,rfl⟩)|(go_at_call_of 330 (Value.string ⟨a.toArray⟩);refine mB (hA.out _) ?_;intro l1 m1)|(go_at_call_of 330 (Value.string ⟨b.toArray⟩);refine mB (hB.out _) ?_;intro l2 m2)|(go_at_call 331;refine mB (ho.out _) ?_;intro l3 m3)|(go_at_call 272;refine(hD.out _).mono ?_;rintro e w1 ⟨rfl,rfl⟩))
  all_goals(go_returns;exact rb_)
end Go.Proofs.YtnccknhbplaieaaGreatDoor
