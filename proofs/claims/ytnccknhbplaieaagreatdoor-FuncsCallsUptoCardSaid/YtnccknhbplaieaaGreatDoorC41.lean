/- Parts. -/
import Derived.Test.YtnccknhbplaieaaGreatDoorC40
import Derived.Test.YtnccknhbplaieaaGreatDoorC34
set_option linter.all false
set_option maxRecDepth 100000
set_option maxHeartbeats 4000000
namespace Go.Proofs.YtnccknhbplaieaaGreatDoor
open Go Go.RowKit Go.Proofs.Tryz
open Go.Lib renaming hid->zh
open Go.IntKind renaming wrap_i64->Q3,i64->Q4
open _root_.Int renaming toNat_natCast->Q5
open _root_.List renaming length_append->Q7,not_mem_nil->Q8
theorem r1_Parse_nil (w:World):Calls prog 113 #[.string (bs [])] w fun e w'=>e=.returned (.tuple #[.int .i64 0,.bool false])/\w'=w:=by
 have ha:=zh (fun w=>r1_digits [] 0 (Nat.le_refl _) (by simp) w);have ha:RowKit.Hid (∀ w,Calls prog 166 #[.string (bs []),.int .i64 0] w fun e w'=>e=.returned (.int .i64 0)/\w'=w):=zh (fun w=>ha.out w);have hz:(bs []).size=0:=rfl;obtain⟨b,hb⟩:=lt_ (bs []);rw[hb] at hz ha ⊢;clear hb;go_enter func113,ntmps113;go_wp2_with(go_at_call_of 166 (Value.int .i64 0);refine(ha.out _).mono ?_;rintro e w1 ⟨rfl,h⟩;obtain rfl:=h.symm;clear h)
 all_goals(go_returns;exact⟨rfl,rfl⟩)
theorem r1_Parse (s:ByteArray) (hs:s.size<=900000000) (w:World):Calls prog 113 #[.string s] w fun e w'=>e=.returned (.tuple #[.int .i64 (parseX s).1,.bool (parseX s).2])/\w'=w:=by
 obtain⟨l,rfl⟩:∃ l,s=bs l:=⟨s.data.toList,(zBa s).symm⟩
 rw[zAu] at hs;unfold parseX;show Calls _ _ _ _ fun e w'=>e=.returned (.tuple #[.int .i64 (parseL (Lib.hasPrefix l [45]) (Lib.cut (Lib.trimPrefix l [45]) [46]).1 (Lib.cut (Lib.trimPrefix l [45]) [46]).2.1 (Lib.cut (Lib.trimPrefix l [45]) [46]).2.2).1,.bool (parseL (Lib.hasPrefix l [45]) (Lib.cut (Lib.trimPrefix l [45]) [46]).1 (Lib.cut (Lib.trimPrefix l [45]) [46]).2.1 (Lib.cut (Lib.trimPrefix l [45]) [46]).2.2).2])/\w'=w;rw[parse_ref];cases l with
 | nil=>exact r1_Parse_nil w
 | cons x t =>
   by_cases hx:x=45
   ·subst hx;have h1:Lib.hasPrefix (45::t) [45]=true:=by simp[Lib.hasPrefix,List.isPrefixOf]
    have h2:Lib.trimPrefix (45::t) [45]=t:=by unfold Lib.trimPrefix;rw[if_pos h1];rfl
    rw[h1,h2];rw[List.length_cons] at hs;exact r1_Parse_arm true 1 _ t (.inl ⟨rfl,rfl,rfl⟩) (by omega) w
   ·have h1:Lib.hasPrefix (x::t) [45]=false:=by
     have: ¬ 45=x:=fun e=>hx e.symm;simp[Lib.hasPrefix,List.isPrefixOf,this]
    have h2:Lib.trimPrefix (x::t) [45]=x::t:=by unfold Lib.trimPrefix;rw[if_neg (by rw[h1];decide)]
    rw[h1,h2];have ha: ¬ x.toNat=45:=fun e=>hx (by rw[<- UInt8.toNat_inj,e];rfl);exact r1_Parse_arm false 0 _ _ (.inr ⟨rfl,rfl,rfl,x,rfl,ha⟩) hs w
theorem fin_in (low:Bool) (n:Nat):Is64 (finP low n).1:=by
 unfold finP;split
 ·exact⟨by decide,by decide⟩
 ·rename_i h;have h1: ¬ 9223372036854775807<n:=fun e=>h (.inl e);unfold signX;rw[if_neg h1];dsimp only;unfold Is64;split<;>constructor<;>omega
theorem ref_in (low:Bool) (p:List UInt8):Is64 (refP low p).1:=by
 have h0:Is64 0:=⟨by decide,by decide⟩
 unfold refP tailP
 repeat' split
 all_goals first|exact h0|exact fin_in _ _
theorem parse_in (s:ByteArray):Is64 (parseX s).1:=by
 unfold parseX;rw[parse_ref];exact ref_in _ _
theorem r9_concat (ss:List ByteArray) (hz:∀ s∈ss,s.size<=1048576) (hn:ss.length<=1000) (text:Nat) (ht:text<=1024) (v:Value) (w:World) (h:StrRow w v ss):Rt 49 #[v,.int .i64 (text:Int)] w (vG (zBO text ss [])):=by
 rw[concat_told,List.nil_append];obtain⟨A,c,rfl,ha⟩:=h;obtain⟨n,he⟩:=lt_ ss.length;rw[he] at ha hn ⊢;obtain⟨R,hR⟩:=lt_ (toldX text (bs (catL ss)));rw[hR];have HR:=zh hR;have hd:=zh ha;have hj:=zh he;have HZ:=zh hz;clear hR ha he hz;go_enter func49,ntmps49;go_wp2
 go_loop [5,6] (fun x t=>∃ (i:Nat) (acc:List UInt8),i<=n/\t=.int .i64 (i:Int)/\x=.string (bs acc)/\acc.length<=text+1048577/\RowKit.Hid (acc++catL (ss.drop i)=catL ss)) (fun _ t=>n-(intOf t).toNat)
 case atStart=>exact⟨0,[],Nat.zero_le _,rfl,rfl,by simp,zh rfl⟩
 case round =>
  obtain⟨i,acc,hi,rfl,rfl,hr,hf⟩:=hrel;have hh:(bs acc).size=acc.length:=zAu acc;obtain⟨m,hm⟩:=lt_ acc.length;rw[hm] at hh hr;by_cases hgo:i<n/\m<=text
  ·obtain⟨h1,h2⟩:=hgo;have hl:(i:Int)<(n:Int):=by omega
   have hq:(m:Int)<=(text:Int):=by omega
   obtain⟨u,hu⟩:∃ u,ss[i]? =some u:=⟨_,List.getElem?_eq_getElem (show i<ss.length by rw[hj.out];exact h1)⟩
   have huz:=HZ.out u (List.mem_of_getElem? hu);obtain⟨g,rfl,hg,hc⟩:=hd.out (by omega);have c0:=hc i u hu;have wi:Q4.wrap ((i:Int)+1)=((i+1:Nat):Int):=by rw[Q3];omega
   have hp:=zh (show (acc++u.data.toList)++catL (ss.drop (i+1))=catL ss by
    rw[<- hf.out,drop_at hu];simp[catL])
   have HQ:=zh (show bs (acc++u.data.toList)=bs acc++u by rw[<- bs_add,zBa]);have ho:=zh (show (acc++u.data.toList).length<=text+1048577 by rw[Q7,hm,zAe];omega);obtain⟨z,hb⟩:=lt_ (bs acc);rw[hb] at hh HQ ⊢;clear hu hc hf hm hb;go_wp2;go_round;case rel=>exact⟨i+1,_,by omega,rfl,by rw[HQ.out],ho.out,hp⟩
   case measure=>simp[intOf];omega
  have e:R=toldX text (bs acc):=by
   rw[<- HR.out,<-hf.out];by_cases h1:i<n
   ·rw[bs_told (by rw[Q7];omega),bs_told (by omega)]
   ·rw[List.drop_of_length_le (by rw[hj.out];omega)];show toldX text (bs (acc++[]))=_;rw[List.append_nil]
  have hk:=zh e;have HT:=zh (zBe (bs acc) text);obtain⟨z,hb⟩:=lt_ (bs acc);rw[hb] at hh HT hk ⊢;clear HR e hm hb hf;by_cases h1:i<n
  have hl:(i:Int)<(n:Int):=by omega
  have hq: ¬ (m:Int)<=(text:Int):=by omega
  rotate_left
  have hl: ¬ (i:Int)<(n:Int):=by omega
  all_goals
   clear hgo;go_wp2_with(go_at_call 45;refine mB (HT.out _) ?_;intro l2 q2)
   all_goals(go_returns;exact⟨by rw[hk.out],bel⟩)
theorem r9_UPPER (s:ByteArray) (hs:s.size<=1048576) (text:Int) (w:World):Rt 51 #[.string ⟨#[85,80,80,69,82]⟩,.string s,.int .i64 text] w (vG (toldX text (eachX 97 65 s))):=by
 have HC:=zh (r9_upper s (by omega));obtain⟨u,hu⟩:=lt_ (eachX 97 65 s);rw[hu] at HC ⊢;have HT:=zh (zBe u text);clear hu hs;go_enter func51,ntmps51;go_wp2_with(first|(go_at_call 110;refine mB (HC.out _) ?_;intro l1 q1)|(go_at_call 45;refine mB (HT.out _) ?_;intro l2 q2))
 all_goals(go_returns;exact rb_)
theorem r9_LOWER (s:ByteArray) (hs:s.size<=1048576) (text:Int) (w:World):Rt 51 #[.string ⟨#[76,79,87,69,82]⟩,.string s,.int .i64 text] w (vG (toldX text (eachX 65 97 s))):=by
 have HC:=zh (r9_lower s (by omega));obtain⟨u,hu⟩:=lt_ (eachX 65 97 s);rw[hu] at HC ⊢;have HT:=zh (zBe u text);clear hu hs;go_enter func51,ntmps51;go_wp2_with(first|(go_at_call 110;refine mB (HC.out _) ?_;intro l1 q1)|(go_at_call 45;refine mB (HT.out _) ?_;intro l2 q2))
 all_goals(go_returns;exact rb_)
theorem r9_TRIM (s:ByteArray) (hs:s.size<=1048576) (text:Int) (w:World):Rt 51 #[.string ⟨#[84,82,73,77]⟩,.string s,.int .i64 text] w (vG (toldX text (trimX s))):=by
 have HC:=zh (r9_trim s (by omega));obtain⟨u,hu⟩:=lt_ (trimX s);rw[hu] at HC ⊢;have HT:=zh (zBe u text);clear hu hs;go_enter func51,ntmps51;go_wp2_with(first|(go_at_call 111;refine mB (HC.out _) ?_;intro l1 q1)|(go_at_call 45;refine mB (HT.out _) ?_;intro l2 q2))
 all_goals(go_returns;exact rb_)
theorem r9_REV (s:ByteArray) (hs:s.size<=1048576) (text:Int) (w:World):Rt 51 #[.string ⟨#[82,69,86]⟩,.string s,.int .i64 text] w (vG (toldX text (revX s))):=by
 have HC:=zh (r9_turned s (by omega));obtain⟨u,hu⟩:=lt_ (revX s);rw[hu] at HC ⊢;have HT:=zh (zBe u text);clear hu hs;go_enter func51,ntmps51;go_wp2_with(first|(go_at_call 112;refine(HC.out _).mono ?_;rintro e w1 ⟨rfl,h⟩;obtain rfl:=h.symm;clear h)|(go_at_call 45;refine mB (HT.out _) ?_;intro l2 q2))
 all_goals(go_returns;exact rb_)
theorem r9_LEN (s:ByteArray) (text:Int) (w:World):Rt 51 #[.string ⟨#[76,69,78]⟩,.string s,.int .i64 text] w (vG (wholeT s.size)):=by
 have HC:=zh (r9_whole (s.size:Int));go_enter func51,ntmps51;go_wp2_with(go_at_call 109;refine mB (HC.out _) ?_;intro l1 q1)
 all_goals(go_returns;exact rb_)
theorem r9_ORD (s:ByteArray) (text:Int) (w:World):Rt 51 #[.string ⟨#[79,82,68]⟩,.string s,.int .i64 text] w (vG (ordX s)):=by
 unfold ordX;cases hl:s.data.toList with
 | nil =>
   have he:s.toList=[]:=by rw[ByteArray.toList_eq];exact hl
   rw[he];show Calls _ _ _ _ fun e w'=>e=.returned (vG (errG 8))/\_;clear hl;go_enter func51,ntmps51;go_wp2_with(go_at_call 22;refine mB (zA6 _ _) ?_;intro l5 q5)
   all_goals(go_returns;exact rb_)
 | cons c l =>
   have he:s.toList.isEmpty=false:=by rw[ByteArray.toList_eq,hl];rfl
   have he2:(s.toList==[])=false:=by rw[ByteArray.toList_eq,hl];rfl
   have hne: ¬ s.toList=[]:=by rw[ByteArray.toList_eq,hl];simp
   rw[he,if_neg (by decide)];have ha:=fun w=>bs_index s.data.toList (i:=0) (c:=c) (by rw[hl];rfl) w;rw[zBa] at ha;show Calls _ _ _ _ fun e w'=>e=.returned (vG (wholeT (c.toNat:Nat)))/\_;have hb:=UInt8.toNat_lt c;obtain⟨m,hm⟩:=lt_ c.toNat;rw[hm] at ha hb ⊢;have HC:=zh (r9_whole (m:Int));have w1:Q4.wrap (m:Int)=(m:Int):=by rw[Q3];omega
   have hc:∀ w,(Instr.index 9 (.string s) (.int .i64 0)).run prog w=.ok (.int .u8 (m:Int)) w:=ha;clear hl hm ha;go_enter func51,ntmps51;go_wp2_with(go_at_call 109;refine mB (HC.out _) ?_;intro l1 q1)
   all_goals(go_returns;exact rb_)
theorem r9_NUM (s:ByteArray) (hs:s.size<=1048576) (text:Int) (w:World):Rt 51 #[.string ⟨#[78,85,77]⟩,.string s,.int .i64 text] w (vG (numTX s)):=by
 have HC:=zh (r1_Parse s (by omega));have h6:=parse_in s;unfold numTX;obtain⟨⟨x,ok⟩,hx⟩:∃ x,parseX s=x:=⟨_,rfl⟩
 rw[hx] at HC h6 ⊢;have HN:=zh (zAw x h6);clear hx hs h6;cases ok;all_goals go_enter func51,ntmps51;all_goals go_wp2_with(first|(go_at_call 113;refine(HC.out _).mono ?_;rintro e w1 ⟨rfl,h⟩;obtain rfl:=h.symm;clear h)|(go_at_call 22;refine mB (zA6 _ _) ?_;intro l5 q5)|(go_at_call 39;refine mB (HN.out _) ?_;intro l1 q1))
 all_goals(go_returns;exact rb_)
theorem r9_LEFT_0 (s:ByteArray) (hs:s.size<=1000000000) (A:Option Addr) (c:Nat) (text:Int) (w:World):Rt 46 #[.string ⟨#[76,69,70,84]⟩,.string s,.slice A 0 c,.int .i64 text] w (vG (leftX text s 1)):=by
 unfold leftX;rw[if_neg (show ¬ (1:Int)<0 by decide)];obtain⟨p,hp⟩:=lt_ s.size;obtain⟨M,hM⟩:∃ M:Nat,min (1:Int) (s.size:Int)=(M:Int):=⟨(min (1:Int) (s.size:Int)).toNat,by omega⟩
 have ha:min (s.size:Int) (1:Int)=(M:Int):=by omega
 have hMp:M<=p:=by omega
 rw[hM,Q5];rw[hp] at hM ha hs;have HT:=zh (zBe (s.extract 0 M) text);go_enter func46,ntmps46;go_wp2_with(go_at_call 45;refine mB (HT.out _) ?_;intro l2 q2)
 all_goals(go_returns;exact rb_)
theorem r9_LEFT_1 (s:ByteArray) (hs:s.size<=1000000000) (g c:Nat) (n:Int) (text:Int) (w:World) (h0:w.cell? ⟨g,0,none⟩=some (.int .i64 n)) (hg:g<w.heap.size):Rt 46 #[.string ⟨#[76,69,70,84]⟩,.string s,.slice (some ⟨g,0,none⟩) 1 c,.int .i64 text] w (vG (leftX text s n)):=by
 unfold leftX;by_cases hn:n<0
 ·rw[if_pos hn];go_enter func46,ntmps46;go_wp2_with(go_at_call 22;refine mB (zA6 _ _) ?_;intro l5 q5)
  all_goals(go_returns;exact rb_)
 ·rw[if_neg hn];have hnB:decide (n<0)=false:=decide_eq_false hn;obtain⟨p,hp⟩:=lt_ s.size;obtain⟨M,hM⟩:∃ M:Nat,min (n:Int) (s.size:Int)=(M:Int):=⟨(min (n:Int) (s.size:Int)).toNat,by omega⟩
  have ha:min (s.size:Int) (n:Int)=(M:Int):=by omega
  have hMp:M<=p:=by omega
  rw[hM,Q5];rw[hp] at hM ha hs;have HT:=zh (zBe (s.extract 0 M) text);go_enter func46,ntmps46;go_wp2_with(go_at_call 45;refine mB (HT.out _) ?_;intro l2 q2)
  all_goals(go_returns;exact rb_)
theorem r9_RIGHT_0 (s:ByteArray) (hs:s.size<=1000000000) (A:Option Addr) (c:Nat) (text:Int) (w:World):Rt 46 #[.string ⟨#[82,73,71,72,84]⟩,.string s,.slice A 0 c,.int .i64 text] w (vG (rightX text s 1)):=by
 unfold rightX;rw[if_neg (show ¬ (1:Int)<0 by decide)];obtain⟨p,hp⟩:=lt_ s.size;obtain⟨M,hM⟩:∃ M:Nat,min (1:Int) (s.size:Int)=(M:Int):=⟨(min (1:Int) (s.size:Int)).toNat,by omega⟩
 have ha:min (s.size:Int) (1:Int)=(M:Int):=by omega
 have hMp:M<=p:=by omega
 obtain⟨K,hK⟩:=lt_ (p-M);rw[hM,hp,show ((p:Int)-(M:Int)).toNat=K by omega];rw[hp] at hM ha hs;have w1:Q4.wrap ((p:Int)-(M:Int))=(K:Int):=by rw[Q3];omega
 have hKp:K<=p:=by omega
 have HT:=zh (zBe (s.extract K p) text);clear hK;go_enter func46,ntmps46;go_wp2_with(go_at_call 45;refine mB (HT.out _) ?_;intro l2 q2)
 all_goals(go_returns;exact rb_)
theorem r9_RIGHT_1 (s:ByteArray) (hs:s.size<=1000000000) (g c:Nat) (n:Int) (text:Int) (w:World) (h0:w.cell? ⟨g,0,none⟩=some (.int .i64 n)) (hg:g<w.heap.size):Rt 46 #[.string ⟨#[82,73,71,72,84]⟩,.string s,.slice (some ⟨g,0,none⟩) 1 c,.int .i64 text] w (vG (rightX text s n)):=by
 unfold rightX;by_cases hn:n<0
 ·rw[if_pos hn];go_enter func46,ntmps46;go_wp2_with(go_at_call 22;refine mB (zA6 _ _) ?_;intro l5 q5)
  all_goals(go_returns;exact rb_)
 ·rw[if_neg hn];have hnB:decide (n<0)=false:=decide_eq_false hn;obtain⟨p,hp⟩:=lt_ s.size;obtain⟨M,hM⟩:∃ M:Nat,min (n:Int) (s.size:Int)=(M:Int):=⟨(min (n:Int) (s.size:Int)).toNat,by omega⟩
  have ha:min (s.size:Int) (n:Int)=(M:Int):=by omega
  have hMp:M<=p:=by omega
  obtain⟨K,hK⟩:=lt_ (p-M);rw[hM,hp,show ((p:Int)-(M:Int)).toNat=K by omega];rw[hp] at hM ha hs;have w1:Q4.wrap ((p:Int)-(M:Int))=(K:Int):=by rw[Q3];omega
  have hKp:K<=p:=by omega
  have HT:=zh (zBe (s.extract K p) text);clear hK;go_enter func46,ntmps46;go_wp2_with(go_at_call 45;refine mB (HT.out _) ?_;intro l2 q2)
  all_goals(go_returns;exact rb_)
theorem r9_REPT_1 (s:ByteArray) (hs:s.size<=1048576) (g c:Nat) (n:Int) (hn6:Is64 n) (text:Nat) (ht:text<=1024) (w:World) (h0:w.cell? ⟨g,0,none⟩=some (.int .i64 n)) (hg:g<w.heap.size):Rt 46 #[.string ⟨#[82,69,80,84]⟩,.string s,.slice (some ⟨g,0,none⟩) 1 c,.int .i64 (text:Int)] w (vG (reptX text s n)):=by
 by_cases hn:n<0
 ·rw[show reptX text s n=errG 8 from if_pos hn];go_enter func46,ntmps46;go_wp2_with(go_at_call 22;refine mB (zA6 _ _) ?_;intro l5 q5)
  all_goals(go_returns;exact rb_)
 ·obtain⟨m,hm⟩:∃ m:Nat,n=(m:Int):=⟨n.toNat,by omega⟩
  subst hm;have hnB:decide ((m:Int)<0)=false:=decide_eq_false hn;have HC:=zh (r9_rept s hs m text ht (by unfold Is64 at hn6;omega));obtain⟨R,hR⟩:=lt_ (reptX text s (m:Int));rw[hR] at HC ⊢;obtain⟨p,hp⟩:=lt_ s.size;clear hR hn6;go_enter func46,ntmps46;go_wp2_with(go_at_call 107;refine mB (HC.out _) ?_;intro l2 q2)
  all_goals(go_returns;exact rb_)
theorem r9_MID_2 (s:ByteArray) (hs:s.size<=1000000000) (g c:Nat) (a b:Int) (ha6:Is64 a) (text:Int) (w:World) (h0:w.cell? ⟨g,0,none⟩=some (.int .i64 a)) (h1:w.cell? ⟨g,1,none⟩=some (.int .i64 b)) (hg:g<w.heap.size):Rt 46 #[.string ⟨#[77,73,68]⟩,.string s,.slice (some ⟨g,0,none⟩) 2 c,.int .i64 text] w (vG (midX text s a b)):=by
 unfold midX;by_cases hb0:b<0
 rw[if_pos (.inr hb0)]
 rotate_left
 have hbB:decide (b<0)=false:=decide_eq_false hb0;by_cases ha0:a<1
 rw[if_pos (.inl ha0)]
 rotate_left
 have haB:decide (a<1)=false:=decide_eq_false ha0;rw[if_neg (by omega)];obtain⟨p,hp⟩:=lt_ s.size;by_cases hap:(p:Int)<a
 rw[hp,show (min (a-1) (p:Int)).toNat=p by omega];have he:(s.extract p p).size=0:=by rw[ByteArray.size_extract];omega
 have hx:s.extract p p=⟨#[]⟩:=by
  rw[<- zBa (s.extract p p),List.eq_nil_of_length_eq_zero (show (s.extract p p).data.toList.length=0 by rw[zAe];exact he)]
 have ha:((⟨#[]⟩:ByteArray).extract 0 (min b ((⟨#[]⟩:ByteArray).size:Int)).toNat)=⟨#[]⟩:=by
  rw[show (min b ((⟨#[]⟩:ByteArray).size:Int)).toNat=0 by have:(⟨#[]⟩:ByteArray).size=0:=rfl;omega]
  rfl
 rw[hx,ha];rw[hp] at hs;have HT:=zh (zBe ⟨#[]⟩ text);clear he hx ha
 rotate_left
 obtain⟨k,hk⟩:∃ k:Nat,a-1=(k:Int):=⟨(a-1).toNat,by omega⟩
 have hkp:k<=p:=by omega
 rw[hp,hk,show (min (k:Int) (p:Int)).toNat=k by omega];have hz:(s.extract k p).size=p-k:=by rw[ByteArray.size_extract];omega
 obtain⟨q,hq⟩:=lt_ (p-k);rw[hq] at hz;obtain⟨M,hM⟩:∃ M:Nat,min b (q:Int)=(M:Int):=⟨(min b (q:Int)).toNat,by omega⟩
 have hM2:min (q:Int) b=(M:Int):=by omega
 have hMq:M<=q:=by omega
 rw[hz,hM,Q5];rw[hp] at hs;have w1:Q4.wrap (a-1)=(k:Int):=by rw[Q3];omega
 have haI: ¬ (p:Int)<a:=hap;have hb:decide ((p:Int)<a)=false:=decide_eq_false hap;have HT:=zh (zBe ((s.extract k p).extract 0 M) text);clear hk hq ha6;all_goals
  go_enter func46,ntmps46;go_wp2_with(first|(go_at_call 22;refine mB (zA6 _ _) ?_;intro l5 q5)|(go_at_call 45;refine mB (HT.out _) ?_;intro l2 q2))
  all_goals(go_returns;exact rb_)
theorem info_S9:(prog.info? 9).map (fun i=>(i.zero,i.size,i.bytes))=some (some (.string ⟨#[]⟩),1,16):=by kernel_rfl
theorem info_N9:(prog.info? 3).map (fun i=>(i.zero,i.size,i.bytes))=some (some (.int .i64 0),1,8):=by kernel_rfl
structure TwoRel (W wr:World) (ss:List ByteArray) (ns:List Int) (sv nv:Value):Prop where
 bel:Below W.heap.size W wr
 os:wr.ownsRow W.heap.size 9 1 sv ss.length (ss.map Value.string)
 on:wr.ownsRow W.heap.size 3 1 nv ns.length (ns.map fun n=>Value.int .i64 n)
theorem TwoRel.below {W wr w2:World} {ss:List ByteArray} {ns:List Int} {sv nv:Value} (h:TwoRel W wr ss ns sv nv) (hb:Below wr.heap.size wr w2):TwoRel W w2 ss ns sv nv :=
 ⟨h.bel.trans (hb.mono h.bel.size),own_below h.os hb,own_below h.on hb⟩
theorem TwoRel.addS {W wr w1 w2:World} {ss:List ByteArray} {ns:List Int} {sv nv sv':Value} {t:ByteArray} (h:TwoRel W wr ss ns sv nv) (hb:Below wr.heap.size wr w1)
  (ho:w2.ownsRow W.heap.size 9 1 sv' (ss.length+1) (ss.map Value.string++[.string t])) (hg:w1.grownBy w2 sv.ownBlock):TwoRel W w2 (ss++[t]) ns sv' nv:=by
 have k:=h.below hb;have o2:w2.ownsRow W.heap.size 3 1 nv ns.length (ns.map fun n=>Value.int .i64 n):=k.on.kept hg (by
  rcases k.os.2 with ⟨h1,_⟩|⟨g,cap,cur,h1,_,hc,_⟩
  ·rcases k.on.2 with ⟨h2,_⟩|⟨g2,cap2,cur2,h2,_,ha,_⟩
   ·exact .inl (by rw[h2];rfl)
   ·exact .inr (by rw[h1,h2];simp[Value.ownBlock])
  ·rcases k.on.2 with ⟨h2,_⟩|⟨g2,cap2,cur2,h2,_,ha,_⟩
   ·exact .inl (by rw[h2];rfl)
   ·refine .inr ?_;rw[h1,h2];simp only[Value.ownBlock];intro e;injection e with e;subst e;rw[hc] at ha;injection ha with ha;injection ha with _ hh _;exact absurd hh (by decide))
 exact⟨k.bel.grown hg k.bel.size (own_block_ge k.os),by simpa using ho,o2⟩
theorem TwoRel.addN {W wr w1 w2:World} {ss:List ByteArray} {ns:List Int} {sv nv nv':Value} {t:Int} (h:TwoRel W wr ss ns sv nv) (hb:Below wr.heap.size wr w1)
  (ho:w2.ownsRow W.heap.size 3 1 nv' (ns.length+1) ((ns.map fun n=>Value.int .i64 n)++[.int .i64 t])) (hg:w1.grownBy w2 nv.ownBlock):TwoRel W w2 ss (ns++[t]) sv nv':=by
 have k:=h.below hb;have o2:w2.ownsRow W.heap.size 9 1 sv ss.length (ss.map Value.string):=k.os.kept hg (by
  rcases k.on.2 with ⟨h1,_⟩|⟨g,cap,cur,h1,_,hc,_⟩
  ·rcases k.os.2 with ⟨h2,_⟩|⟨g2,cap2,cur2,h2,_,ha,_⟩
   ·exact .inl (by rw[h2];rfl)
   ·exact .inr (by rw[h1,h2];simp[Value.ownBlock])
  ·rcases k.os.2 with ⟨h2,_⟩|⟨g2,cap2,cur2,h2,_,ha,_⟩
   ·exact .inl (by rw[h2];rfl)
   ·refine .inr ?_;rw[h1,h2];simp only[Value.ownBlock];intro e;injection e with e;subst e;rw[hc] at ha;injection ha with ha;injection ha with _ hh _;exact absurd hh (by decide))
 exact⟨k.bel.grown hg k.bel.size (own_block_ge k.on),o2,by simpa using ho⟩
theorem gath_S2 {ops:Array Oper} {rest:List Oper} {o:Oper} {a:Act} {w:World} {Q:Exit->Act->World->Prop} (hgd:o.guard=none) (s x:Operand)
  (ho:o.op=.call { callee:=.builtin .append,args:=#[s,x],argTypes:=#[93,93] })
  {W w0 w1:World} {sv nv:Value} {g:Nat} {ss:List ByteArray} {ns:List Int} (t:ByteArray) (hs:a.eval s=sv) (hT:TwoRel W w0 ss ns sv nv) (hb:Below w0.heap.size w0 w1) (hw:w=w1.alloc (.cells #[.string t] 9)) (hg:g=w1.heap.size) (hx:a.eval x=.slice (some ⟨g,0,none⟩) 1 1) (hn:ss.length<=1000000)
  (h:∀ v' w',TwoRel W w' (ss++[t]) ns v' nv->wpList prog ops Q rest (a.put o.dst v') w'):wpList prog ops Q (o::rest) a w:=by
 obtain⟨i0,hi,hc,hd,he⟩:=info_parts info_S9;subst hw;subst hg;have s0:=hT.bel.size;have s1:=hb.size;have ha:Below w0.heap.size w0 (w1.alloc (.cells #[.string t] 9)):=zBb hb _ s1;exact wpList_append_own _ hgd s x 93 ho W.heap.size 9 i0 (.string ⟨#[]⟩) 1 16 underlying93 hi hc hd he (by decide) (by decide) sv ss.length (ss.map Value.string) hs (own_below hT.os ha) ⟨w1.heap.size,0,none⟩ 1 1 [.string t] hx (by simp) (zAO rfl) (by intro u hu;simp only[List.mem_cons,Q8,or_false] at hu;subst hu;rfl) (by simp only[maxLen];omega) (by omega) (by simp;omega) (fun v' w' h2 h3 _=>h v' w' (hT.addS ha h2 h3))
theorem gath_N2 {ops:Array Oper} {rest:List Oper} {o:Oper} {a:Act} {w:World} {Q:Exit->Act->World->Prop} (hgd:o.guard=none) (s x:Operand)
  (ho:o.op=.call { callee:=.builtin .append,args:=#[s,x],argTypes:=#[94,94] })
  {W w0 w1:World} {sv nv:Value} {g:Nat} {ss:List ByteArray} {ns:List Int} (t:Int) (hs:a.eval s=nv) (hT:TwoRel W w0 ss ns sv nv) (hb:Below w0.heap.size w0 w1) (hw:w=w1.alloc (.cells #[.int .i64 t] 3)) (hg:g=w1.heap.size) (hx:a.eval x=.slice (some ⟨g,0,none⟩) 1 1) (hn:ns.length<=1000000)
  (h:∀ v' w',TwoRel W w' ss (ns++[t]) sv v'->wpList prog ops Q rest (a.put o.dst v') w'):wpList prog ops Q (o::rest) a w:=by
 obtain⟨i0,hi,hc,hd,he⟩:=info_parts info_N9;subst hw;subst hg;have s0:=hT.bel.size;have s1:=hb.size;have ha:Below w0.heap.size w0 (w1.alloc (.cells #[.int .i64 t] 3)):=zBb hb _ s1;exact wpList_append_own _ hgd s x 94 ho W.heap.size 3 i0 (.int .i64 0) 1 8 underlying94 hi hc hd he (by decide) (by decide) nv ns.length (ns.map fun n=>Value.int .i64 n) hs (own_below hT.on ha) ⟨w1.heap.size,0,none⟩ 1 1 [.int .i64 t] hx (by simp) (zAO rfl) (by intro u hu;simp only[List.mem_cons,Q8,or_false] at hu;subst hu;rfl) (by simp only[maxLen];omega) (by omega) (by simp;omega) (fun v' w' h2 h3 _=>h v' w' (hT.addN ha h2 h3))
theorem takes9 (s:ByteArray) (xs:List Bool) {n:Nat} (hn:xs.length=n):zBS (zAb s).1 (zAb s).2.1 n xs=zAx s xs:=by
 subst hn;unfold zAb zAx zBS;cases zAT s with
 | none=>simp[between];omega
 | some q=>obtain⟨x,y⟩:=q;simp[Bool.and_comm]
theorem zBQ {α:Type} {p:Prop} [Decidable p] {a r:α} {b:Option α} (h:(if p then some a else b)=some r):(p/\a=r)∨b=some r:=by
 by_cases hp:p
 ·rw[if_pos hp] at h;exact .inl ⟨hp,Option.some.inj h⟩
 ·rw[if_neg hp] at h;exact .inr h
end Go.Proofs.YtnccknhbplaieaaGreatDoor
