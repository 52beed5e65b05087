/- Parts. -/
import Derived.Test.YtnccknhbplaieaaGreatDoorC19
import Derived.Test.YtnccknhbplaieaaGreatDoorC36
import Derived.Test.YtnccknhbplaieaaGreatDoorC34
set_option linter.all false
set_option maxRecDepth 100000
set_option maxHeartbeats 4000000
namespace Go.Proofs.YtnccknhbplaieaaGreatDoor
open Go Go.RowKit Go.Proofs.Tryz
open Go.Lib renaming hid->zh
open _root_.List renaming length_map->Q3,getElem?_eq_getElem->Q4,take_of_length_le->Q5
open _root_.Bool renaming and_eq_true->Q7
def faultyA (al:List Arg):Option V:=(al.find? fun a=> !a.many&&isF a.val).map Arg.val
theorem faulty_vals {al:List Arg} (h:zAU (al.map Arg.many)=false):faultyA al=(al.map Arg.val).find? isF:=by
 unfold faultyA
 induction al with
 | nil=>rfl
 | cons a al ih =>
   unfold zAU at h ih;simp only[List.map_cons,List.contains_cons,Bool.or_eq_false_iff] at h;have hm:a.many=false:=by cases hh:a.many with
    | false=>rfl
    | true=>rw[hh] at h;exact absurd h.1 (by decide)
   rw[List.map_cons,List.find?_cons,List.find?_cons,hm];cases hf:isF a.val with
   | true=>simp
   | false=>simpa using ih h.2
theorem r8_Faulty (al:List Arg) (A:Option Addr) (n c B:Nat) (w:World) (hr:Reads w B 11 A n (zAY al)) (hm:n<=1000000000000) :
  Rt 36 #[.slice A n c] w (.tuple #[(vG ((faultyA al).getD zeroG)),.bool (faultyA al).isSome]):=by
 have hc:al.length=n:=by
  have:=hr.1;rw[zAN] at this;omega
 obtain⟨R,hR⟩:=lt_ (faultyA al);rw[hR];have hi:=zh hR;have HR:=zh hr;have hk:=zh hc;clear hr hR;go_enter func36,ntmps36;go_wp2
 go_loopw [4] (fun t wr=>∃ j:Nat,j<=n/\t=.int .i64 (j:Int)/\RowKit.Hid ((al.take j).find? (fun a=> !a.many&&isF a.val)=none)/\Below (w.alloc zeroV).heap.size (w.alloc zeroV) wr) (fun t _=>n-(intOf t).toNat)
 case atStart=>exact⟨0,Nat.zero_le _,rfl,zh rfl,Below.refl _ _⟩
 case round =>
  obtain⟨j,hj,rfl,he,hB⟩:=hrel;obtain⟨l0,q0,rfl⟩:=zA0 hB;clear hB;unfold zeroV at *;by_cases hlt:j<n
  obtain⟨a,ha⟩:∃ a,al[j]? =some a:=⟨_,Q4 (show j<al.length by omega)⟩
  obtain⟨b,o,rfl,hb,hjn,c0,c1,c2,c3,c4,c5,c6,c7,c8,c9,c10⟩:=arg_at HR.out ha;have hn:(j:Int)<(n:Int):=by omega
  obtain⟨⟨many,val,top,left,bottom,right,ents,m,cc⟩,ea⟩:∃ x,x=a:=⟨_,rfl⟩
  subst ea;simp only at c0 c1 c2 c3 c4 c5 c6 c7 c8 c9 c10;have HA:=zh ha;clear ha hc;cases many;by_cases hf:val.tag=4
  ·have hg:=zh (show R=some val by rw[<- hi.out];unfold faultyA;rw[find_yes HA.out he.out (by simp[isF,hf])];rfl);have hl:(val.tag==4)=true:=by simp[hf]
   clear hf;go_wp2;all_goals(go_returns;exact⟨by rw[hg.out];rfl,bel⟩)
  have hh:=zh (find_no HA.out he.out (by simp[isF,hf]));have hl:(val.tag==4)=false:=by simp[hf]
  clear hf
  rotate_left
  have hh:=zh (find_no HA.out he.out (by simp))
  rotate_left
  ·obtain rfl:j=n:=by omega
   have hd:=he.out;rw[Q5 (by omega)] at hd;have hg:=zh (show R=none by rw[<- hi.out];unfold faultyA;rw[hd];rfl);have hn: ¬ (j:Int)<(j:Int):=by omega
   clear hd hc;go_wp2;all_goals(go_returns;exact⟨by rw[hg.out];rfl,bel⟩)
  all_goals
   go_wp2;go_roundw;case rel=>exact⟨j+1,by omega,by go_num,zh hh.out,bel⟩
   case measure=>simp[intOf];omega
theorem gath_I {ops:Array Oper} {rest:List Oper} {o:Oper} {a:Act} {w:World} {Q:Exit->Act->World->Prop} (hgd:o.guard=none) (s x:Operand)
  (ho:o.op=.call { callee:=.builtin .append,args:=#[s,x],argTypes:=#[84,84] })
  {W w0 w1:World} {v:Value} {g:Nat} {l:List Int} (y:Int) {n:Nat} (hn:l.length=n) (hs:a.eval s=v) (hG:zAA W w0 2 1 v n (I l)) (hb:Below w0.heap.size w0 w1) (hw:w=w1.alloc (.cells #[.int .i64 y] 2)) (hg:g=w1.heap.size) (hx:a.eval x=.slice (some ⟨g,0,none⟩) 1 1) (hm:n<=1000000000000)
  (h:∀ v' w',zAA W w' 2 1 v' (n+1) (I (l++[y]))->wpList prog ops Q rest (a.put o.dst v') w'):wpList prog ops Q (o::rest) a w :=
 gath_one hgd s x 84 2 1 8 (.int .i64 0) ho underlying84 info_I (by decide) rfl (by decide) #[.int .i64 y] rfl (by intro u hu;simp only[List.mem_cons,List.not_mem_nil,or_false] at hu;subst hu;rfl) hs hG hb hw (by rw[hg]) hx hm
  (fun v' w' h1=>h v' w' (by have e:I (l++[y])=I l++(#[Value.int .i64 y]:Array Value).toList:=by simp[I]
                             rw[e];exact h1))
theorem takes8 (s:ByteArray) (xs:List Bool) {n:Nat} (hn:xs.length=n):zBS (zAh s).1 (zAh s).2 n xs=zBB s xs:=by
 subst hn;unfold zAh zBB zBS;cases zAd s with
 | none=>simp[between];omega
 | some q=>obtain⟨x,y⟩:=q;simp[Bool.and_comm]
theorem one_any (s:ByteArray) (hs:s=⟨#[65,66,83]⟩∨s=⟨#[83,73,71,78]⟩∨s=⟨#[73,78,84]⟩∨s=⟨#[83,81,82,84]⟩∨s=⟨#[70,65,67,84]⟩∨s=⟨#[79,68,68]⟩) (x:Int) (hx:In63 x) (w:World):Rt 40 #[.string s,.int .i64 x] w (vG (numDo s [x])):=by
 rcases hs with rfl|rfl|rfl|rfl|rfl|rfl
 ·rw[show numDo ⟨#[65,66,83]⟩ [x]=numG (max x (-x)) by unfold numDo;repeat(first|rw[if_pos rfl]|rw[if_neg (by decide)]);first|done|rfl];rw[show max x (-x)=((x.natAbs:Nat):Int) by omega];exact r8_ABS x hx w
 ·rw[show numDo ⟨#[83,73,71,78]⟩ [x]=signV x by unfold numDo;repeat(first|rw[if_pos rfl]|rw[if_neg (by decide)]);first|done|rfl];exact r8_SIGN x w
 ·rw[show numDo ⟨#[73,78,84]⟩ [x]=numC (floorX x) by unfold numDo;repeat(first|rw[if_pos rfl]|rw[if_neg (by decide)]);first|done|rfl];exact r8_INT x hx w
 ·rw[show numDo ⟨#[83,81,82,84]⟩ [x]=numC (sqrtX x) by unfold numDo;repeat(first|rw[if_pos rfl]|rw[if_neg (by decide)]);first|done|rfl];exact r8_SQRT x hx w
 ·rw[show numDo ⟨#[70,65,67,84]⟩ [x]=factX x by unfold numDo;repeat(first|rw[if_pos rfl]|rw[if_neg (by decide)]);first|done|rfl];exact r8_FACT x hx w
 ·rw[show numDo ⟨#[79,68,68]⟩ [x]=oddX x by unfold numDo;repeat(first|rw[if_pos rfl]|rw[if_neg (by decide)]);first|done|rfl];exact r8_ODD x hx w
theorem two_any (s:ByteArray) (hs:s=⟨#[70,76,79,79,82]⟩∨s=⟨#[67,69,73,76]⟩∨s=⟨#[77,79,68]⟩∨s=⟨#[81,85,79,84]⟩∨s=⟨#[80,79,87,69,82]⟩∨s=⟨#[84,82,85,78,67]⟩∨s=⟨#[82,79,85,78,68]⟩) (x y:Int) (hx:In63 x) (hy:In63 y) (w:World):Rt 41 #[.string s,.int .i64 x,.int .i64 y] w (vG (numDo s [x,y])):=by
 rcases hs with rfl|rfl|rfl|rfl|rfl|rfl|rfl
 ·rw[show numDo ⟨#[70,76,79,79,82]⟩ [x,y]=numC (zAn x y) by unfold numDo;repeat(first|rw[if_pos rfl]|rw[if_neg (by decide)]);first|done|rfl];exact r8_FLOOR x y hx hy w
 ·rw[show numDo ⟨#[67,69,73,76]⟩ [x,y]=numC (ceilX x y) by unfold numDo;repeat(first|rw[if_pos rfl]|rw[if_neg (by decide)]);first|done|rfl];exact r8_CEIL x y hx hy w
 ·rw[show numDo ⟨#[77,79,68]⟩ [x,y]=numC (modX x y) by unfold numDo;repeat(first|rw[if_pos rfl]|rw[if_neg (by decide)]);first|done|rfl];exact r8_MOD x y hx hy w
 ·rw[show numDo ⟨#[81,85,79,84]⟩ [x,y]=quotX x y by unfold numDo;repeat(first|rw[if_pos rfl]|rw[if_neg (by decide)]);first|done|rfl];exact r8_QUOT x y hx hy w
 ·rw[show numDo ⟨#[80,79,87,69,82]⟩ [x,y]=zB5 powX x y by unfold numDo;repeat(first|rw[if_pos rfl]|rw[if_neg (by decide)]);first|done|rfl];exact r8_POWER x y hx hy w
 ·rw[show numDo ⟨#[84,82,85,78,67]⟩ [x,y]=zB5 truncP x y by unfold numDo;repeat(first|rw[if_pos rfl]|rw[if_neg (by decide)]);first|done|rfl];exact r8_TRUNC x y hx hy w
 ·rw[show numDo ⟨#[82,79,85,78,68]⟩ [x,y]=zB5 zBW x y by unfold numDo;repeat(first|rw[if_pos rfl]|rw[if_neg (by decide)]);first|done|rfl];exact r8_ROUND x y hx hy w
theorem ite_key2 {α:Type} {p:Prop} [Decidable p] {a r:α} {b:Option α} (h:(if p then some a else b)=some r):(p/\a=r)∨b=some r:=by
 by_cases hp:p
 ·rw[if_pos hp] at h;exact .inl ⟨hp,Option.some.inj h⟩
 ·rw[if_neg hp] at h;exact .inr h
theorem num_names {s:ByteArray} {x y:Int} (h:zAd s=some (x,y)):((s=⟨#[65,66,83]⟩∨s=⟨#[83,73,71,78]⟩∨s=⟨#[73,78,84]⟩∨s=⟨#[83,81,82,84]⟩∨s=⟨#[70,65,67,84]⟩∨s=⟨#[79,68,68]⟩)/\x=1/\y=1)∨((s=⟨#[70,76,79,79,82]⟩∨s=⟨#[67,69,73,76]⟩∨s=⟨#[77,79,68]⟩∨s=⟨#[81,85,79,84]⟩∨s=⟨#[80,79,87,69,82]⟩)/\x=2/\y=2)∨((s=⟨#[84,82,85,78,67]⟩∨s=⟨#[82,79,85,78,68]⟩)/\x=1/\y=2)∨(s=⟨#[67,76,65,77,80]⟩/\x=3/\y=3)∨((s=⟨#[71,67,68]⟩∨s=⟨#[76,67,77]⟩)/\x=1/\y=16):=by
 unfold zAd at h
 iterate 16
  rcases ite_key2 h with ⟨e,e2⟩|h
  ·cases e2;subst e
   decide +kernel
 cases h
theorem tr_nought (s:ByteArray) (hs:s=⟨#[84,82,85,78,67]⟩∨s=⟨#[82,79,85,78,68]⟩) (x:Int):numDo s [x]=numDo s [x,0]:=by
 rcases hs with rfl|rfl
 ·rw[show numDo ⟨#[84,82,85,78,67]⟩ [x]=numC (truncP x 0) by unfold numDo;repeat(first|rw[if_pos rfl]|rw[if_neg (by decide)]);first|done|rfl,show numDo ⟨#[84,82,85,78,67]⟩ [x,0]=zB5 truncP x 0 by unfold numDo;repeat(first|rw[if_pos rfl]|rw[if_neg (by decide)]);first|done|rfl];unfold zB5;rw[show zAF 0=(0,true) by decide]
  rfl
 ·rw[show numDo ⟨#[82,79,85,78,68]⟩ [x]=numC (zBW x 0) by unfold numDo;repeat(first|rw[if_pos rfl]|rw[if_neg (by decide)]);first|done|rfl,show numDo ⟨#[82,79,85,78,68]⟩ [x,0]=zB5 zBW x 0 by unfold numDo;repeat(first|rw[if_pos rfl]|rw[if_neg (by decide)]);first|done|rfl];unfold zB5;rw[show zAF 0=(0,true) by decide]
  rfl
theorem tr_args (s:ByteArray) (hs:s=⟨#[84,82,85,78,67]⟩∨s=⟨#[82,79,85,78,68]⟩) (ls:List Int) (h1:1<=ls.length) (h2:ls.length<=2) (h:∀ b∈ls,In63 b):∃ x y rest,ls++[0]=x::y::rest/\numDo s ls=numDo s [x,y]/\In63 x/\In63 y:=by
 match ls,h1,h2 with
 | [x],_,_=>exact⟨x,0,[],rfl,tr_nought s hs x,h x (by simp),by unfold In63;decide⟩
 | [x,y],_,_=>exact⟨x,y,[0],rfl,rfl,h x (by simp),h y (by simp)⟩
theorem zBc {w:World} {l l':List Obj} {q q' p i:Nat} {v:Value} (h:(more w l q).cell? ⟨p,i,none⟩=some v):(more w (l++l') q').cell? ⟨p,i,none⟩=some v:=by
 have h1:=zAv h l' q'
 rwa[zAQ] at h1
theorem zBn {w:World} {o o':Obj} {l l':List Obj} {q q' g i:Nat} {v:Value} (hg:w.heap.size+1<=g) (h:(more (w.alloc o) l q).cell? ⟨g,i,none⟩=some v):(more (w.alloc o') (l++l') q').cell? ⟨g,i,none⟩=some v:=by
 have ha:=World.block_lt_of_cell? _ _ h;simp only[zBo,World.alloc,Array.size_push] at ha;rw[<- h];refine World.cell?_of_block (a:=⟨g,i,none⟩) ?_;show ((w.heap.push o')++(l++l').toArray)[g]? =((w.heap.push o)++l.toArray)[g]?;simp only[Array.getElem?_append,Array.size_push,if_neg (show ¬ g<w.heap.size+1 by omega),List.getElem?_toArray];rw[List.getElem?_append_left (by omega)]
theorem r8_Call (s:ByteArray) (al:List Arg) (A:Option Addr) (n c:Nat) (tx:Int) (w:World) (hr:Reads w w.heap.size 11 A n (zAY al)) (hm:n<=1000000000000) (h64:∀ a∈al,Is64 a.val.num) (ok:Nat->Bool)
  (hok:∀ j a,al[j]? =some a->∀ W,Below w.heap.size w W->Rt 67 #[a.agg] W (.bool (ok j))) :
  Rt 15 #[.string s,.slice A n c,.int .i64 tx] w (vG (zBI s al ok)):=by
 have hi:al.length=n:=by
  have:=hr.1;rw[zAN] at this;omega
 have he:=zh (fun (W:World) (hB:Below w.heap.size w W)=>ref08_ArgsX al A n c W.heap.size W ((hr.below hB).lift hB.size) hm ok (fun j a ha W2 h2=>hok j a ha W2 (hB.trans (h2.mono hB.size))));have hV:=zh (fun (W:World) (hB:Below w.heap.size w W)=>r8_Faulty al A n c W.heap.size W ((hr.below hB).lift hB.size) hm);have Hi:(al.map Arg.many).length=n:=by rw[Q3,hi]
 have hQ:=zh (fun A1 c1 W B h=>ref08_Takes s A1 n c1 (al.map Arg.many) W B h (by omega));have Hf:(al.map Arg.val).length=n:=by rw[Q3,hi]
 rw[takes8 s _ Hi] at hQ;have hk:= @faulty_vals al;have hE:= @takes_len s (al.map Arg.many);rw[Hi] at hE;have hL:zBB s (al.map Arg.many)=true->zAU (al.map Arg.many)=false:=by
  intro h;unfold zBB at h;cases e:zAd s with
  | none=>rw[e] at h;cases h
  | some q=>obtain⟨x,y⟩:=q;rw[e] at h;simp only[Q7,Bool.not_eq_true'] at h;exact h.2
 obtain⟨R,hR⟩:=lt_ (zBI s al ok);unfold zBI at hR;rw[hi] at hR he;have Hm:=zh (fun (j:Nat) (a:Arg) (h:al[j]? =some a)=>(show (al.map Arg.val)[j]? =some a.val by rw[List.getElem?_map,h];rfl));have ho:=zh (show ∀ v∈al.map Arg.val,Is64 v.num from fun v hv=>by
  obtain⟨a,ha,rfl⟩:=List.mem_map.1 hv;exact h64 a ha)
 obtain⟨vs,Hg⟩:=lt_ (al.map Arg.val);rw[Hg] at hR Hf Hm ho hk;obtain⟨K,hK⟩:=lt_ ((List.range n).all ok);obtain⟨T,hT⟩:=lt_ (zBB s (al.map Arg.many));obtain⟨F,hF⟩:=lt_ (faultyA al);rw[hK] at hR he;rw[hT] at hR hQ hE hL;rw[hF] at hV hk;rw[show zBI s al ok=R by unfold zBI;rw[hi,hK,hT,Hg];exact hR];have HR:=zh hr;have hW:=zh hi;clear hr hok h64 Hi Hg hK hT hF;cases K;rw[if_neg (by decide)] at hR;subst hR;clear hk hE hL
 rotate_left
 rw[if_pos rfl] at hR;cases T;rw[if_neg (by decide)] at hR;subst hR;clear hk hE hL
 rotate_left
 rw[if_pos rfl] at hR;obtain⟨x0,y0,Hd,Hc,hn1,HA⟩:=hE rfl;have hk:=hk (hL rfl);clear hE hL;unfold numsVals at hR;rw[<- hk] at hR;rcases F with _|f
 ·have Hk:=zh (show R=match vs.find? badN with|some v=>errG (zA5 v).2|none=>numDo s (vs.map fun v=>(zA5 v).1) from hR.symm);have hn:=zh Hd;have hl:=zh Hc;have hY:=zh Hf;clear hR hk Hd Hc Hf;go_enter func15,ntmps15;go_wp2_with(first|(go_at_call 20;refine(he.out _ bel).mono ?_;rintro e w1 ⟨v1,rfl,hd,hb⟩;obtain⟨A1,c1,rfl,-,-⟩:=zA8 hd;have hX:=zh (Reads.zAC hd);obtain⟨l1,q1,rfl⟩:=zA0 hb;clear hd hb)|(go_at_call 35;refine(hQ.out _ _ _ _ hX.out).mono ?_;rintro e w2 ⟨rfl,h⟩;obtain rfl:=h.symm;clear h)|(go_at_call 36;refine mB (hV.out _ bel) ?_;intro l3 q3))
  go_loopw [12,11] (fun t v wr=>∃ j:Nat,j<=n/\t=.int .i64 (j:Int)/\RowKit.Hid ((vs.take j).find? badN=none)/\zAA (w.alloc zObj) wr 2 1 v j (I ((vs.take j).map fun v=>(zA5 v).1))) (fun t _ _=>n-(intOf t).toNat)
  case atStart=>exact⟨0,Nat.zero_le _,rfl,zh rfl,bel,World.ownsRow_nil _ _ _ _⟩
  case round =>
   obtain⟨j,hj,rfl,hD,hG⟩:=hrel;have HG:=zh hG;clear hG;by_cases hlt:j<n
   ·obtain⟨a,ha⟩:∃ a,al[j]? =some a:=⟨_,Q4 (show j<al.length by rw[hW.out];exact hlt)⟩
    have Hj:=zh ha;have He:=Hm.out j a ha;have Hz:(j:Int)<(n:Int):=by omega
    have wj:IntKind.i64.wrap ((j:Int)+1)=((j+1:Nat):Int):=by rw[IntKind.wrap_i64];omega
    have hI:=zh (r2_AsNumber a.val (ho.out a.val (List.mem_of_getElem? He)).1);have hS:=zh He;have Hl:=zh (show ((vs.take j).map fun v=>(zA5 v).1).length=j by rw[Q3,List.length_take,hY.out];omega);obtain⟨val,hw⟩:=lt_ a.val;rw[hw] at hI hS;have hJ:=zh hw;clear ha He hw;cases hbd:((zA5 val).2 != 0)
    ·have hU:(zA5 val).2=0:=by simpa using hbd
     have Hw:=zh (find_no hS.out hD.out hbd);have HQ:=zh (show (vs.take (j+1)).map (fun v=>(zA5 v).1)=(vs.take j).map (fun v=>(zA5 v).1)++[(zA5 val).1] by rw[take1 hS.out,List.map_append];rfl);obtain⟨x,hx⟩:=lt_ ((zA5 val).1);rw[hx,hU] at hI;rw[hx] at HQ;obtain⟨z,hz⟩:=lt_ ((vs.take j).map (fun v=>(zA5 v).1));rw[hz] at HQ HG Hl;have hy:=(show Below w.heap.size w (w.alloc zObj) from bel).trans (HG.out.1.mono (by simp));obtain⟨b,o,rfl,hb,Hy,c0,c1,c2,c3,c4,c5,c6,c7,c8,c9,c10⟩:=arg_at ((HR.out.below hy).lift hy.size) Hj.out;rw[hJ.out] at c1 c2 c3 c4 c5;clear hbd hU hx hz hD hy c0 c6 c7 c8 c9 c10;go_wp2_with(first|(go_at_call 37;refine mB (hI.out _) ?_;intro l4 q4)|(at_builtin;refine gath_I rfl _ _ rfl x Hl.out rfl HG.out bel rfl (by simp) rfl (by omega) ?_;intro v3 w3 hp))
     have Hu:=zh hp;clear hp;go_wp2;go_roundw;case rel=>exact⟨j+1,by omega,rfl,Hw,by rw[HQ.out];exact Hu.out⟩
     case measure=>simp[intOf];omega
    ·have hf:=zh (show R=errG (zA5 val).2 by rw[Hk.out,find_yes hS.out hD.out hbd]);have hU: ¬ (zA5 val).2=0:=by simpa using hbd
     obtain⟨cd,Ho⟩:=lt_ ((zA5 val).2);rw[Ho] at hI hf hU;obtain⟨l0,q0,Hh⟩:=zA0 HG.out.1;subst Hh;obtain⟨b,o,rfl,hb,Hy,c0,c1,c2,c3,c4,c5,c6,c7,c8,c9,c10⟩:=arg_at HR.out Hj.out;rw[hJ.out] at c1 c2 c3 c4 c5;clear hbd hD Ho c0 c6 c7 c8 c9 c10;go_wp2_with(first|(go_at_call 37;refine mB (hI.out _) ?_;intro l4 q4)|(go_at_call 22;refine mB (zA6 _ _) ?_;intro l5 q5))
     all_goals(go_returns;exact⟨by rw[hf.out],bel⟩)
   ·obtain rfl:j=n:=by omega
    have Hz: ¬ (j:Int)<(j:Int):=by omega
    have hu:=hD.out;obtain⟨l0,q0,Hh⟩:=zA0 HG.out.1;subst Hh;have hG:=HG.out;rw[Q5 (Nat.le_of_eq hY.out)] at hu hG;have Hb:R=numDo s (vs.map fun v=>(zA5 v).1):=by rw[Hk.out,hu]
    have hc:∀ b∈vs.map (fun v=>(zA5 v).1),In63 b:=by
     intro b hb;obtain⟨v,hv,rfl⟩:=List.mem_map.1 hb;exact asNum_63 v (ho.out v hv)
    have hh:(vs.map fun v=>(zA5 v).1).length=j:=by rw[Q3,hY.out]
    obtain⟨ls,Hs⟩:=lt_ (vs.map (fun v=>(zA5 v).1));rw[Hs] at hG Hb hc hh;have hA:=zh hG;obtain⟨hB,hO⟩:=hG;obtain⟨g,cc,rfl,Hq,hg2,hH⟩:=zAR hO (by omega);have hC:=zh (nrow_own (l:=ls) (by rw[hh];exact hO));have ht:=hl.out;simp only[between,Q7,decide_eq_true_eq] at ht;have hf:=zh Hb;have Hp:w.heap.size+1<=g:=by simpa using Hq
    clear hu hD Hb Hs hB HG hO;rcases num_names hn.out with ⟨hs,rfl,rfl⟩|⟨hs,rfl,rfl⟩|⟨hs,rfl,rfl⟩|⟨hs,rfl,rfl⟩|⟨hs,rfl,rfl⟩
    ·obtain rfl:j=1:=by omega
     obtain⟨x,rfl⟩:∃ x,ls=[x]:=by
      match ls,hh with
      | [x],_=>exact⟨x,rfl⟩
     have c0:=hH 0 _ rfl;have HC:=zh (one_any s hs x (hc x (by simp)));rw[<- hf.out] at HC;clear hH hC hc hh ht hf hn hl hA;rcases hs with rfl|rfl|rfl|rfl|rfl|rfl;all_goals go_wp2_with(go_at_call 40;refine mB (HC.out _) ?_;intro l5 q5)
     all_goals(go_returns;exact rb_)
    ·obtain rfl:j=2:=by omega
     obtain⟨x,y,rfl⟩:∃ x y,ls=[x,y]:=by
      match ls,hh with
      | [x,y],_=>exact⟨x,y,rfl⟩
     have c0:=hH 0 _ rfl;have c1:=hH 1 _ rfl;have HC:=zh (two_any s (by rcases hs with h|h|h|h|h<;>simp[h]) x y (hc x (by simp)) (hc y (by simp)));rw[<- hf.out] at HC;clear hH hC hc hh ht hf hn hl hA;rcases hs with rfl|rfl|rfl|rfl|rfl;all_goals go_wp2_with fail;all_goals go_region_held3 (fun w'=>w'.cell? ⟨g,0,none⟩=some (.int .i64 x)/\w'.cell? ⟨g,1,none⟩=some (.int .i64 y)) (first|(go_keep;done)|((try dsimp only[vG]);(repeat' apply And.intro)<;>(first|assumption|exact zBc (by assumption)|exact zBn (by assumption) (by assumption)))) (first|(go_at_call 41;refine mB (HC.out _) ?_;intro l5 q5));all_goals go_wp2;all_goals(go_returns;exact rb_)
    ·obtain⟨x,y,rest,hq,hg,hN,hP⟩:=tr_args s hs ls (by omega) (by omega) hc;have HC:=zh (two_any s (by rcases hs with h|h<;>simp[h]) x y hN hP);rw[<- hg,<-hf.out] at HC;have Hv:=zh hh;have HQ:=zh hq;have hj1: ¬ ((j:Int)+1=1):=by omega
     have hj2:(0:Int)<(j:Int)+1:=by omega
     have hj3:(1:Int)<(j:Int)+1:=by omega
     have hj4:0<j+1:=by omega
     have hj5:1<j+1:=by omega
     have hj6:0<j:=by omega
     have hj7: ¬ j=0:=by omega
     have hj8: ¬ (j:Int)=0:=by omega
     clear hH hC hc hh ht hf hn hl hq hg hN hP Hp Hq;rcases hs with rfl|rfl;all_goals go_wp2_with(at_builtin;refine gath_I rfl _ _ rfl 0 Hv.out rfl hA.out bel rfl (by simp) rfl (by omega) ?_;intro v3 w3 hp;rw[HQ.out] at hp;obtain⟨g3,cc3,rfl,Hr,-,hZ⟩:=zAR hp.2 (Nat.succ_pos _);have Hp:w.heap.size+1<=g3:=(by simpa using Hr);have c0:=hZ 0 _ rfl;have c1:=hZ 1 _ rfl;obtain⟨l7,q7,HB⟩:=zA0 hp.1;subst HB;clear hZ hp Hr)
     all_goals go_wp2_with fail;all_goals go_region_held3 (fun w'=>w'.cell? ⟨g3,0,none⟩=some (.int .i64 x)/\w'.cell? ⟨g3,1,none⟩=some (.int .i64 y)) (first|(go_keep;done)|((try dsimp only[vG]);(repeat' apply And.intro)<;>(first|assumption|exact zBc (by assumption)|exact zBn (by assumption) (by assumption)))) (first|(go_at_call 41;refine mB (HC.out _) ?_;intro l5 q5));all_goals go_wp2;all_goals(go_returns;exact rb_)
    ·obtain rfl:j=3:=by omega
     obtain⟨x,y,z,rfl⟩:∃ x y z,ls=[x,y,z]:=by
      match ls,hh with
      | [x,y,z],_=>exact⟨x,y,z,rfl⟩
     subst hs;have c0:=hH 0 _ rfl;have c1:=hH 1 _ rfl;have c2:=hH 2 _ rfl;have d0:∀ q,(more (w.alloc zObj) l0 q).cell? ⟨g,0,none⟩=some (.int .i64 x):=fun _=>c0;have d1:∀ q,(more (w.alloc zObj) l0 q).cell? ⟨g,1,none⟩=some (.int .i64 y):=fun _=>c1;have d2:∀ q,(more (w.alloc zObj) l0 q).cell? ⟨g,2,none⟩=some (.int .i64 z):=fun _=>c2;have hN:=hc x (by simp);have hP:=hc y (by simp);have Ht:=hc z (by simp);have hg:R=clampX x y z:=by
      rw[hf.out];unfold numDo
      repeat(first|rw[if_pos rfl]|rw[if_neg (by decide)])
      rfl
     unfold clampX at hg;by_cases hzy:z<y
     ·rw[if_pos hzy] at hg;subst hg;clear hH hC hc hh ht hf hn hl hA hN hP Ht;go_wp2_with fail;go_quiet (fail);go_wp2_with(go_at_call 22;refine mB (zA6 _ _) ?_;intro l5 q5)
      all_goals(go_returns;exact rb_)
     ·rw[if_neg hzy] at hg;obtain⟨M,hM⟩:=lt_ (max y (min x z));have Ha:min (max x y) z=M:=by omega
      have Hn:In63 M:=by
       rw[<- Ha];unfold In63 at *;omega
      rw[Ha] at hg;have HN:=zh (zAw M Hn.to64);rw[<- hg,<-hM] at HN;clear hH hC hc hh ht hf hn hl hA hN hP Ht Ha Hn hg hM;go_wp2_with fail;go_quiet (fail);go_wp2_with fail
      go_region_held3 (fun w'=>w'.cell? ⟨g,0,none⟩=some (.int .i64 x)/\w'.cell? ⟨g,1,none⟩=some (.int .i64 y)/\w'.cell? ⟨g,2,none⟩=some (.int .i64 z)) (first|(go_keep;done)|((try dsimp only[vG]);(repeat' apply And.intro)<;>(first|assumption|exact d0 _|exact d1 _|exact d2 _|exact zBc (by assumption)|exact zBn (by assumption) (by assumption)|exact zBn (by assumption) (d0 q0)|exact zBn (by assumption) (d1 q0)|exact zBn (by assumption) (d2 q0)))) (first|(go_at_call 39;refine mB (HN.out _) ?_;intro l5 q5))
      all_goals go_wp2;all_goals(go_returns;exact rb_)
    ·have HC:=zh (fun v W h=>r8_many s hs ls hc (by omega) v W h);have hg:(if s=⟨#[71,67,68]⟩ then gcdX ls else lcmX ls)=numDo s ls:=by
      rcases hs with rfl|rfl;all_goals(unfold numDo;repeat(first|rw[if_pos rfl]|rw[if_neg (by decide)]))
     rw[hg,<-hf.out] at HC;clear hH hc hh ht hf hn hl hA hg;rcases hs with rfl|rfl;all_goals go_wp2_with(go_at_call 38;refine mB (HC.out _ _ (hC.out.below bel)) ?_;intro l5 q5)
     all_goals(go_returns;exact rb_)
 have Hx:R=f:=hR.symm;subst Hx;clear hR hk Hd Hc;all_goals
  go_enter func15,ntmps15;go_wp2_with(first|(go_at_call 20;refine(he.out _ bel).mono ?_;rintro e w1 ⟨v1,rfl,hd,hb⟩;obtain⟨A1,c1,rfl,-,-⟩:=zA8 hd;have hX:=zh (Reads.zAC hd);obtain⟨l1,q1,rfl⟩:=zA0 hb;clear hd hb)|(go_at_call 22;refine mB (zA6 _ _) ?_;intro l5 q5)|(go_at_call 35;refine(hQ.out _ _ _ _ hX.out).mono ?_;rintro e w2 ⟨rfl,h⟩;obtain rfl:=h.symm;clear h)|(go_at_call 36;refine mB (hV.out _ bel) ?_;intro l3 q3))
  all_goals(go_returns;exact rb_)
end Go.Proofs.YtnccknhbplaieaaGreatDoor
