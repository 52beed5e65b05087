/- Parts. -/
import Derived.Test.YtppghgnhlgoagaaGreatDoorG12
import Derived.Test.YtppghgnhlgoagaaGreatDoorG09
set_option linter.all false
set_option maxRecDepth 100000
set_option maxHeartbeats 4000000
namespace Go.Proofs.YtppghgnhlgoagaaGreatDoor
open Go Go.RowKit
structure P3 where
 d:Int
 b:Int
 m:Bool
def P3.cells (p:P3):List Value:=[.int .i64 p.d,.int .i64 p.b,.bool p.m]
theorem P3.cells_length (p:P3):p.cells.length=3:=rfl
theorem P3.cells_one (p:P3):∀ u∈p.cells,u.oneCell'=true:=by
 intro u hu
 simp only[P3.cells,List.mem_cons,List.not_mem_nil,or_false] at hu
 rcases hu with rfl|rfl|rfl<;>rfl
def p3z:P3:=⟨0,0,false⟩
def opK (k:Int):Nat:=if k=1∨k=2 then 1 else 2
def maxD (l:List P3):Int:=l.foldl (fun d p=>max d p.d) 0
def pOne (k:Int) (a:P3):P3:=⟨insG a.d a.b (lev k),lev k,false⟩
def pTwo (k:Int) (a b:P3):P3:=⟨max (insG a.d a.b (lev k)) (insG b.d b.b (lev k+1)),lev k,false⟩
def dOp (k:Int) (l:List P3):Option (List P3) :=
 if opK k=1 then match l.getLast? with
  | none=>none
  | some a=>if a.m then none else some (l.take (l.length-1)++[pOne k a])
 else match l[l.length-2]?,l.getLast? with
  | some a,some b=>if l.length<2 then none else if a.m || b.m then none else some (l.take (l.length-2)++[pTwo k a b])
  | _,_=>none
def zBt (l:List P3) (x:Nx):Option (List P3) :=
 if zBj x=false then none
 else if x.kind=3 then some (l++[⟨0,7,true⟩])
 else if x.kind=4 then dOp x.op l
 else if x.kind=5 then if l.length<x.args.toNat then none else some (l.take (l.length-x.args.toNat)++[⟨maxD (l.drop (l.length-x.args.toNat))+1,7,false⟩])
 else some (l++[⟨0,7,false⟩])
def dGo:List Nx->List P3->Int×Bool
 | [],[p]=>if p.m then (0,false) else (p.d,true)
 | [],_=>(0,false)
 | x::xs,l=>match zBt l x with
   | none=>(0,false)
   | some l'=>dGo xs l'
def depthG (xs:List Nx):Int×Bool:=if xs.length<1∨1024<xs.length then (0,false) else dGo xs []
def zBD (xs:List Nx):Bool:=(depthG xs).2&&decide ((depthG xs).1<=32)
def Pbd (j:Nat) (l:List P3):Prop:=∀ p∈l,0<=p.d/\p.d<=j/\1<=p.b/\p.b<=7
theorem lev_bd (k:Int):1<=lev k/\lev k<=6:=by unfold lev;(repeat' split)<;>omega
theorem insG_bd {d b least:Int} {j:Nat} (h0:0<=d) (h1:d<=j):0<=insG d b least/\insG d b least<=(j+1:Nat):=by unfold insG;split<;>omega
theorem maxD_go {j:Nat} :∀ (l:List P3) (d:Int),Pbd j l->0<=d->d<=j->0<=l.foldl (fun d p=>max d p.d) d/\l.foldl (fun d p=>max d p.d) d<=j
 | [],_,_,h1,h2=>⟨h1,h2⟩
 | p::l,d,h,h1,h2=>by
   have hp:=h p (by simp)
   exact maxD_go l (max d p.d) (fun q hq=>h q (List.mem_cons_of_mem _ hq)) (by omega) (by omega)
theorem Pbd.maxD {j:Nat} {l:List P3} (h:Pbd j l):0<=maxD l/\maxD l<=j:=maxD_go l 0 h (by omega) (by omega)
theorem Pbd.push {j:Nat} {l:List P3} {p:P3} (h:Pbd j l) (hp:0<=p.d/\p.d<=(j+1:Nat)/\1<=p.b/\p.b<=7) (k:Nat):Pbd (j+1) (l.take k++[p]):=by
 intro q hq
 rcases List.mem_append.1 hq with hq|hq
 ·have:=h q (List.mem_of_mem_take hq)
  omega
 ·rw[List.mem_singleton.1 hq]
  exact hp
theorem maxD_snoc (l:List P3) (p:P3):maxD (l++[p])=max (maxD l) p.d:=by unfold maxD;rw[List.foldl_append];rfl
theorem part_insideX (d b least:Int) (m:Bool) (h0:0<=d) (h1:d<=1000000) (w:World):Rt 52 #[.agg #[.int .i64 d,.int .i64 b,.bool m],.int .i64 least] w (.int .i64 (insG d b least)):=by
 by_cases h:b<least
 ·have e:insG d b least=d+1:=if_pos h
  rw[e]
  go_enter Tryz.func52,Tryz.ntmps52
  go_wp2
  go_ret
  exact⟨rfl,bel⟩
 ·have e:insG d b least=d:=if_neg h
  rw[e]
  go_enter Tryz.func52,Tryz.ntmps52
  go_wp2
  go_ret
  exact⟨rfl,bel⟩
theorem info_P3:(Tryz.prog.info? 141).map (fun i=>(i.zero,i.size,i.bytes))=some (some (.agg #[.int .i64 0,.int .i64 0,.bool false]),3,24):=by kernel_rfl
theorem lev_wrapX (k:Int):IntKind.i64.wrap (lev k+1)=lev k+1:=by
 have h:=lev_bd k
 rw[IntKind.wrap_i64]
 omega
theorem pop_flat {α:Type} (f:α->List Value) {size:Nat} (hf:∀ x,(f x).length=size) {w:World} {base g cap n m:Nat} {e:TypeId} (l:List α) (hl:l.length=n) (hm:m<=n)
  (h:w.ownsRow base e size (.slice (some ⟨g,0,none⟩) n cap) n (zBi f l)):w.ownsRow base e size (.slice (some ⟨g,0,none⟩) m cap) m (zBi f (l.take m)):=by
 obtain⟨k,rfl⟩:∃ k,n=m+k:=⟨n-m,by omega⟩
 clear hm
 induction k generalizing l with
 | zero=>rw[List.take_of_length_le (by omega)];exact h
 | succ k ih =>
   have e1:l=l.take (m+k)++l.drop (m+k):=(List.take_append_drop _ _).symm
   have e2:zBi f l=zBi f (l.take (m+k))++zBi f (l.drop (m+k)):=by rw[<- zAC,<-e1]
   rw[e2] at h
   have h2:=ih (l.take (m+k)) (by simp;omega) (ownsRow_pop (n:=m+k) (by rw[zAD f size hf,List.length_take,Nat.min_eq_left (by omega)]) h)
   rw[List.take_take,Nat.min_eq_left (by omega)] at h2
   exact h2
theorem zAk {w:World} {base e size n:Nat} {v:Value} {xs:List Value} (h:w.ownsRow base e size v n xs):∃ A c,v=.slice A n c/\n<=c/\c<=maxLen:=by
 rcases h.2 with ⟨h1,h2⟩|⟨g,cap,cur,e1,hg,hh,h1,h2,_⟩
 ·subst h2
  exact⟨none,0,h1,Nat.le_refl _,Nat.zero_le _⟩
 ·exact⟨_,cap,e1,h1,h2⟩
theorem dGo_cons (x:Nx) (xs:List Nx) (l:List P3):dGo (x::xs) l=match zBt l x with
 | none=>(0,false)
 | some l'=>dGo xs l':=rfl
theorem dstep_no {l:List P3} {x:Nx} (h:zBj x=false):zBt l x=none:=if_pos h
theorem dstep_rect {l:List P3} {x:Nx} (h:zBj x=true) (h3:x.kind=3):zBt l x=some (l++[⟨0,7,true⟩]):=by unfold zBt;rw[if_neg (by simp[h]),if_pos h3]
theorem dstep_op {l:List P3} {x:Nx} (h:zBj x=true) (h4:x.kind=4):zBt l x=dOp x.op l:=by unfold zBt;rw[if_neg (by simp[h]),if_neg (by omega),if_pos h4]
theorem zBa {l:List P3} {x:Nx} (h:zBj x=true) (h5:x.kind=5):zBt l x=if l.length<x.args.toNat then none else some (l.take (l.length-x.args.toNat)++[⟨maxD (l.drop (l.length-x.args.toNat))+1,7,false⟩]):=by unfold zBt;rw[if_neg (by simp[h]),if_neg (by omega),if_neg (by omega),if_pos h5]
theorem dstep_push {l:List P3} {x:Nx} (h:zBj x=true) (h3:x.kind≠3) (h4:x.kind≠4) (h5:x.kind≠5):zBt l x=some (l++[⟨0,7,false⟩]):=by unfold zBt;rw[if_neg (by simp[h]),if_neg h3,if_neg h4,if_neg h5]
theorem ndMay_args {x:Nx} (h:zBj x=true) (h5:x.kind=5):0<=x.args/\x.args<=16:=by
 unfold zBj at h
 rw[if_neg (by omega),if_neg (by omega),if_neg (by omega),if_neg (by omega),if_pos h5] at h
 by_cases hc:namedX x.name=false∨x.args<0∨16<x.args
 ·rw[if_pos hc] at h;cases h
 ·omega
theorem ndMay_op {x:Nx} (h:zBj x=true) (h4:x.kind=4):1<=x.op/\x.op<=13:=by
 unfold zBj at h
 rw[if_neg (by omega),if_neg (by omega),if_neg (by omega),if_pos h4] at h
 by_cases hc:x.op<1∨13<x.op
 ·rw[if_pos hc] at h;cases h
 ·omega
theorem Pbd.op {j:Nat} {pre r:List P3} {p:P3} (h:Pbd j (pre++r)) (hp:0<=p.d/\p.d<=(j+1:Nat)/\1<=p.b/\p.b<=7):Pbd (j+1) (pre++[p]):=by
 intro q hq
 rcases List.mem_append.1 hq with hq|hq
 ·have:=h q (List.mem_append_left _ hq)
  omega
 ·rw[List.mem_singleton.1 hq]
  exact hp
theorem pOne_bd {j:Nat} {a:P3} (k:Int) (h:0<=a.d/\a.d<=j/\1<=a.b/\a.b<=7):0<=(pOne k a).d/\(pOne k a).d<=(j+1:Nat)/\1<=(pOne k a).b/\(pOne k a).b<=7:=by
 have h1:=insG_bd (b:=a.b) (least:=lev k) h.1 h.2.1
 have h2:=lev_bd k
 exact⟨h1.1,h1.2,h2.1,by show lev k<=7;omega⟩
theorem pTwo_bd {j:Nat} {a b:P3} (k:Int) (h:0<=a.d/\a.d<=j/\1<=a.b/\a.b<=7) (g:0<=b.d/\b.d<=j/\1<=b.b/\b.b<=7):0<=(pTwo k a b).d/\(pTwo k a b).d<=(j+1:Nat)/\1<=(pTwo k a b).b/\(pTwo k a b).b<=7:=by
 have h1:=insG_bd (b:=a.b) (least:=lev k) h.1 h.2.1
 have h3:=insG_bd (b:=b.b) (least:=lev k+1) g.1 g.2.1
 have h2:=lev_bd k
 refine⟨?_,?_,h2.1,by show lev k<=7;omega⟩
 ·show 0<=max _ _
  omega
 ·show max _ _<=_
  omega
theorem dOp_one {k:Int} (hu:k=1∨k=2) (pre:List P3) (a:P3):dOp k (pre++[a])=if a.m then none else some (pre++[pOne k a]):=by
 unfold dOp
 rw[if_pos (show opK k=1 from if_pos hu)]
 simp
theorem dOp_one0 {k:Int} (hu:k=1∨k=2):dOp k []=none:=by
 unfold dOp
 rw[if_pos (show opK k=1 from if_pos hu)]
 rfl
theorem dOp_two {k:Int} (hu: ¬ (k=1∨k=2)) (pre:List P3) (a b:P3):dOp k (pre++[a,b])=if a.m || b.m then none else some (pre++[pTwo k a b]):=by
 have e:(pre++[a,b]).length=pre.length+2:=by simp
 unfold dOp
 rw[if_neg (show ¬ opK k=1 by unfold opK;rw[if_neg hu];decide),e,show (pre++[a,b])[pre.length+2-2]? =some a by simp,show (pre++[a,b]).getLast? =some b by simp]
 dsimp only
 rw[if_neg (by omega),show (pre++[a,b]).take (pre.length+2-2)=pre by simp]
theorem dOp_two0 {k:Int} (hu: ¬ (k=1∨k=2)) (l:List P3) (h:l.length<2):dOp k l=none:=by
 unfold dOp
 rw[if_neg (show ¬ opK k=1 by unfold opK;rw[if_neg hu];decide)]
 split
 ·rw[if_pos h]
 ·rfl
theorem two_lastX {α:Type} (l:List α) (h:2<=l.length):∃ pre a b,l=pre++[a,b]:=by
 refine⟨l.take (l.length-2),l[l.length-2],l[l.length-1],?_⟩
 apply List.ext_getElem?
 intro i
 by_cases h1:i<l.length-2
 ·rw[List.getElem?_append_left (by simp;omega),List.getElem?_take,if_pos h1]
 ·rw[List.getElem?_append_right (by simp;omega)]
  have e:(l.take (l.length-2)).length=l.length-2:=by simp
  rw[e]
  by_cases h2:i=l.length-2
  ·subst h2;simp
  ·by_cases h3:i=l.length-1
   ·subst h3
    have e2:l.length-1-(l.length-2)=1:=by omega
    rw[e2];simp
   ·rw[List.getElem?_eq_none (by omega),List.getElem?_eq_none (by simp;omega)]
theorem own_formX {w:World} {base e size n:Nat} {v:Value} {xs:List Value} (h:w.ownsRow base e size v n xs):(v=.slice none 0 0/\n=0)∨∃ g c,v=.slice (some ⟨g,0,none⟩) n c/\n<=c/\c<=maxLen/\g<w.heap.size:=by
 rcases h.2 with ⟨h1,h2⟩|⟨g,cap,cur,e1,hg,hh,h1,h2,_⟩
 ·exact .inl ⟨h1,h2⟩
 ·exact .inr ⟨g,cap,e1,h1,h2,(Array.getElem?_eq_some_iff.1 hh).1⟩
theorem maxD_take (l:List P3) (k:Nat) (p:P3) (h:l[k]? =some p):maxD (l.take (k+1))=max (maxD (l.take k)) p.d:=by
 rw[zBc h,maxD_snoc]
theorem Pbd.take {j k:Nat} {l:List P3} (h:Pbd j l):Pbd j (l.take k):=fun p hp=>h p (List.mem_of_mem_take hp)
theorem Pbd.drop {j k:Nat} {l:List P3} (h:Pbd j l):Pbd j (l.drop k):=fun p hp=>h p (List.mem_of_mem_drop hp)
theorem dstep_bd {x:Nx} {ps ps':List P3} {j:Nat} (h:zBt ps x=some ps') (hP:Pbd j ps) (hpl:ps.length<=j):Pbd (j+1) ps'/\ps'.length<=j+1:=by
 have hpush:∀ (m:Bool),Pbd (j+1) (ps++[(⟨0,7,m⟩:P3)])/\(ps++[(⟨0,7,m⟩:P3)]).length<=j+1:=fun m=>by
  have h:=hP.push (p:=⟨0,7,m⟩) (by dsimp only;omega) ps.length
  rw[List.take_length] at h
  exact⟨h,by simp;omega⟩
 by_cases hmay:zBj x=true
 ·by_cases k3:x.kind=3
  ·rw[dstep_rect hmay k3] at h
   cases h
   exact hpush true
  by_cases k4:x.kind=4
  ·rw[dstep_op hmay k4] at h
   by_cases hu:x.op=1∨x.op=2
   ·rcases List.eq_nil_or_concat ps with rfl|⟨pre,a,rfl⟩
    ·rw[dOp_one0 hu] at h;cases h
    ·rw[List.concat_eq_append] at *
     rw[dOp_one hu] at h
     by_cases hm:a.m=true
     ·rw[if_pos hm] at h;cases h
     ·rw[if_neg hm] at h
      cases h
      refine⟨hP.op (pOne_bd x.op (hP a (by simp))),?_⟩
      simp at hpl ⊢
      omega
   ·by_cases hl:ps.length<2
    ·rw[dOp_two0 hu ps hl] at h;cases h
    ·obtain⟨pre,a,b,rfl⟩:=two_lastX ps (by omega)
     rw[dOp_two hu] at h
     by_cases hm:(a.m || b.m)=true
     ·rw[if_pos hm] at h;cases h
     ·rw[if_neg hm] at h
      cases h
      refine⟨hP.op (pTwo_bd x.op (hP a (by simp)) (hP b (by simp))),?_⟩
      simp at hpl ⊢
      omega
  by_cases k5:x.kind=5
  ·rw[zBa hmay k5] at h
   by_cases hl:ps.length<x.args.toNat
   ·rw[if_pos hl] at h;cases h
   ·rw[if_neg hl] at h
    cases h
    have hm:=(hP.drop (k:=ps.length-x.args.toNat)).maxD
    refine⟨hP.push (by dsimp only;omega) _,?_⟩
    simp
    omega
  rw[dstep_push hmay k3 k4 k5] at h
  cases h
  exact hpush false
 ·rw[dstep_no (by simpa using hmay)] at h
  cases h
def errI (ok:Bool):Int:=if ok then 0 else 20
def NxD (x:Nx) (ps:List P3) (wB:World) (bn off n c j:Nat) (Qn:Act->World->Prop) (s0 s1 s2 s3 s5 aC aA aJ aK aB aN aO aP au ax ay ae aS aQ aU aV aW aX aY aZ aF aG aH aI aj:Value):Prop:=∀ ⦃v4 v6 v7 v8 v9 jr kH kT nZ lM lN jV jW lQ jX jY jP jC lS jZ lT ja lU lV jQ lW jB jb jc lX jd jF je jD lY jf lZ jg lh jR jh lm mD ji jE jk jl jm mF mG jG mJ jH mM mO jS jT mP mQ mV mW mX mY mZ mf mg mi mr nC nD nG nH nI nJ nK nM nN nO nP nR jv jw jy kC kD jJ kE kF kG jU kJ kK kL kM kN kP kQ jK kR kS kU kV kW kX jL kY kZ jI ku kw kz lC lD lF lG lH lI lJ jM jO lK lL:Value⦄ (ps':List P3) (w':World),zBt ps x=some ps'->zAE wB w' 141 3 v4 ps'.length (zBi P3.cells ps')->Qn ⟨#[s0,s1,s2,s3,v4,s5,v6,v7,v8,v9,jr,kH,kT,aC,nZ,aA,aJ,aK,aB,aN,aO,aP,au,ax,ay,ae,.slice (some ⟨bn,off,none⟩) n c,.int .i64 n,.int .i64 (j+1:Nat),lM,lN,jV,jW,lQ,jX,jY,jP,jC,lS,jZ,lT,ja,lU,lV,jQ,lW,jB,jb,jc,lX,jd,jF,je,jD,lY,jf,lZ,jg,lh,jR,jh,lm,mD,ji,jE,jk,jl,jm,mF,mG,jG,mJ,jH,mM,mO,jS,jT,mP,mQ,mV,mW,mX,mY,mZ,mf,mg,mi,mr,nC,nD,nG,nH,nI,nJ,nK,nM,nN,nO,nP,nR,jv,jw,jy,kC,kD,jJ,kE,kF,kG,jU,kJ,kK,kL,kM,kN,kP,kQ,jK,kR,kS,kU,kV,kW,kX,jL,kY,kZ,jI,ku,kw,kz,lC,lD,lF,lG,lH,lI,lJ,jM,jO,lK,lL,aS,aQ,aU,aV,aW,aX,aY,aZ,aF,aG,aH,aI,aj],[]⟩ w'
def RtD (x:Nx) (ps:List P3) (wr:World) (bn off n c j:Nat) (Q0:Exit->Act->World->Prop) (s0 s1 s5 aC aA aJ aK aB aN aO aP au ax ay ae aS aQ aU aV aW aX aY aZ aF aG aH aI aj:Value):Prop:=zBt ps x=none->∀ ⦃v4 v6 v7 v8 v9 jr kH kT nZ lM lN jV jW lQ jX jY jP jC lS jZ lT ja lU lV jQ lW jB jb jc lX jd jF je jD lY jf lZ jg lh jR jh lm mD ji jE jk jl jm mF mG jG mJ jH mM mO jS jT mP mQ mV mW mX mY mZ mf mg mi mr nC nD nG nH nI nJ nK nM nN nO nP nR jv jw jy kC kD jJ kE kF kG jU kJ kK kL kM kN kP kQ jK kR kS kU kV kW kX jL kY kZ jI ku kw kz lC lD lF lG lH lI lJ jM jO lK lL:Value⦄ (w':World),Below wr.heap.size wr w'->Q0 .ret ⟨#[s0,s1,.int .i64 0,.bool false,v4,s5,v6,v7,v8,v9,jr,kH,kT,aC,nZ,aA,aJ,aK,aB,aN,aO,aP,au,ax,ay,ae,.slice (some ⟨bn,off,none⟩) n c,.int .i64 n,.int .i64 j,lM,lN,jV,jW,lQ,jX,jY,jP,jC,lS,jZ,lT,ja,lU,lV,jQ,lW,jB,jb,jc,lX,jd,jF,je,jD,lY,jf,lZ,jg,lh,jR,jh,lm,mD,ji,jE,jk,jl,jm,mF,mG,jG,mJ,jH,mM,mO,jS,jT,mP,mQ,mV,mW,mX,mY,mZ,mf,mg,mi,mr,nC,nD,nG,nH,nI,nJ,nK,nM,nN,nO,nP,nR,jv,jw,jy,kC,kD,jJ,kE,kF,kG,jU,kJ,kK,kL,kM,kN,kP,kQ,jK,kR,kS,kU,kV,kW,kX,jL,kY,kZ,jI,ku,kw,kz,lC,lD,lF,lG,lH,lI,lJ,jM,jO,lK,lL,aS,aQ,aU,aV,aW,aX,aY,aZ,aF,aG,aH,aI,aj],[]⟩ w'
open Go.Lib renaming hid->zh
def befE (x e:En):Bool:=befB e.row e.col x.row x.col
def atE (l:List En) (x:En):Nat:=(l.takeWhile (befE x)).length
def putG (l:List En) (x:En):List En:=if mayG x.v=false∨zCB x.row x.col=false then l else match l[atE l x]? with
 | some e=>if e.row=x.row/\e.col=x.col then l else l.take (atE l x)++x::l.drop (atE l x)
 | none=>l.take (atE l x)++x::l.drop (atE l x)
theorem at_stop {l:List En} {x:En} {j:Nat} (hle:j<=l.length) (h:∀ k e,k<j->l[k]? =some e->befE x e=true) (hj:l[j]? =none∨∃ e,l[j]? =some e/\befE x e=false):atE l x=j:=by
 induction l generalizing j with
 | nil =>
   match j,hj with
   | 0,_=>rfl
   | j+1,hj=>exact absurd hle (by simp)
 | cons e l ih =>
   match j,hj with
   | 0,hj =>
     rcases hj with hj|⟨e',h1,h2⟩
     ·cases hj
     ·cases h1
      unfold atE
      rw[List.takeWhile_cons,h2]
      rfl
   | j+1,hj =>
     have h0:befE x e=true:=h 0 e (by omega) rfl
     have h1:=ih (j:=j) (by simpa using hle) (fun k e' hk he=>h (k+1) e' (by omega) he) hj
     unfold atE at h1 ⊢
     rw[List.takeWhile_cons,h0]
     simp[h1]
def En.agg (e:En):Value:=.agg #[.int .i64 e.row,.int .i64 e.col,.int .i64 e.v.tag,.int .i64 e.v.num,.string e.v.str,.bool e.v.is,.int .i64 e.v.code]
theorem law_put_no (l:List En) (x:En) (h64:Is64 x.v.num) (v:Value) (w:World) (h:mayG x.v=false∨zCB x.row x.col=false):Rt 18 #[v,x.agg] w v:=by
 have h2:(!mayG x.v || !zCB x.row x.col)=true:=by rcases h with h|h<;>simp[h]
 have HM:=zh (fun w=>ref02_May x.v h64.1 w)
 have HC:=zh (fun w=>ref03_May x.row x.col w)
 obtain⟨M,hM⟩:∃ M,mayG x.v=M:=⟨_,rfl⟩
 obtain⟨C,hC⟩:∃ C,zCB x.row x.col=C:=⟨_,rfl⟩
 rw[hM,hC] at h2
 rw[hM] at HM
 rw[hC] at HC
 clear h hM hC h64
 unfold En.agg
 go_enter Tryz.func18,Tryz.ntmps18
 go_wp2_with(first|(go_at_call 15;refine mB (HM.out _) ?_;intro l1 n1)|(go_at_call 31;refine mB (HC.out _) ?_;intro l2 n2))
 all_goals first
  | (exfalso;simp_all;done)
  | (go_ret;exact⟨rfl,bel⟩)
theorem flat_oneX (l:List En):∀ u∈zBi En.cells l,u.oneCell'=true:=fun u hu=>by
 obtain⟨e,_,he⟩:=List.mem_flatMap.1 hu
 exact En.cells_one e u he
theorem law_put_yes (l:List En) (x:En) (h64:Is64 x.v.num) (v:Value) (base:Nat) (w:World) (hown:w.ownsRow base 57 7 v l.length (zBi En.cells l)) (hl:l.length<=1048576) (hb0:base<=w.heap.size) (hm:mayG x.v=true) (hc:zCB x.row x.col=true) :
  Calls Tryz.prog 18 #[v,x.agg] w fun e w'=>∃ v',e=.returned v'/\Below w.heap.size w w'/\w'.ownsRow base 57 7 v' (putG l x).length (zBi En.cells (putG l x)):=by
 obtain⟨i0,hi,hz0,hz1,hz2⟩:=info_parts info_En
 have HM:=zh (fun w=>ref02_May x.v h64.1 w)
 have HC:=zh (fun w=>ref03_May x.row x.col w)
 rw[hm] at HM
 rw[hc] at HC
 have HO:=zh hown
 have hput:putG l x=match l[atE l x]? with
  | some e=>if e.row=x.row/\e.col=x.col then l else l.take (atE l x)++x::l.drop (atE l x)
  | none=>l.take (atE l x)++x::l.drop (atE l x):=by unfold putG;rw[if_neg (by rw[hm,hc];simp)]
 obtain⟨R,hR⟩:∃ R,putG l x=R:=⟨_,rfl⟩
 rw[hR] at hput ⊢
 have HPUT:=zh hput
 clear hm hc h64 hput hR
 unfold En.agg
 rcases own_formX hown with ⟨rfl,hl0⟩|⟨g,c,rfl,hc1,hc2,hg⟩
 ·obtain rfl:l=[]:=List.length_eq_zero_iff.1 hl0
  have hp:=HPUT.out
  rw[show atE [] x=0 from rfl] at hp
  have HPL:=zh (show R=[x] from hp)
  clear hown hp HPUT
  go_enter Tryz.func18,Tryz.ntmps18
  go_wp2_with(first|(go_at_call 15;refine mB (HM.out _) ?_;intro l1 n1)|(go_at_call 31;refine mB (HC.out _) ?_;intro l2 n2))
  go_loopw [7] (fun t wr=>t=.int .i64 0/\Below (w.heap.size+1) (w.alloc (.cells #[.int .i64 x.row,.int .i64 x.col,.int .i64 x.v.tag,.int .i64 x.v.num,.string x.v.str,.bool x.v.is,.int .i64 x.v.code] 57)) wr) (fun t _=>0)
  case atStart=>exact⟨rfl,bel⟩
  case round =>
   obtain⟨rfl,hB⟩:=hrel
   have hs:=hB.size
   rw[alz] at hs
   have b0:wr.cell? ⟨w.heap.size,0,none⟩=some (.int .i64 x.row):=cell_below (w:=w.alloc (.cells #[.int .i64 x.row,.int .i64 x.col,.int .i64 x.v.tag,.int .i64 x.v.num,.string x.v.str,.bool x.v.is,.int .i64 x.v.code] 57)) ((AtB.new rfl) 0 _ rfl) (by rw[alz];exact hB)
   have b1:wr.cell? ⟨w.heap.size,1,none⟩=some (.int .i64 x.col):=cell_below (w:=w.alloc (.cells #[.int .i64 x.row,.int .i64 x.col,.int .i64 x.v.tag,.int .i64 x.v.num,.string x.v.str,.bool x.v.is,.int .i64 x.v.code] 57)) ((AtB.new rfl) 1 _ rfl) (by rw[alz];exact hB)
   have b2:wr.cell? ⟨w.heap.size,2,none⟩=some (.int .i64 x.v.tag):=cell_below (w:=w.alloc (.cells #[.int .i64 x.row,.int .i64 x.col,.int .i64 x.v.tag,.int .i64 x.v.num,.string x.v.str,.bool x.v.is,.int .i64 x.v.code] 57)) ((AtB.new rfl) 2 _ rfl) (by rw[alz];exact hB)
   have b3:wr.cell? ⟨w.heap.size,3,none⟩=some (.int .i64 x.v.num):=cell_below (w:=w.alloc (.cells #[.int .i64 x.row,.int .i64 x.col,.int .i64 x.v.tag,.int .i64 x.v.num,.string x.v.str,.bool x.v.is,.int .i64 x.v.code] 57)) ((AtB.new rfl) 3 _ rfl) (by rw[alz];exact hB)
   have b4:wr.cell? ⟨w.heap.size,4,none⟩=some (.string x.v.str):=cell_below (w:=w.alloc (.cells #[.int .i64 x.row,.int .i64 x.col,.int .i64 x.v.tag,.int .i64 x.v.num,.string x.v.str,.bool x.v.is,.int .i64 x.v.code] 57)) ((AtB.new rfl) 4 _ rfl) (by rw[alz];exact hB)
   have b5:wr.cell? ⟨w.heap.size,5,none⟩=some (.bool x.v.is):=cell_below (w:=w.alloc (.cells #[.int .i64 x.row,.int .i64 x.col,.int .i64 x.v.tag,.int .i64 x.v.num,.string x.v.str,.bool x.v.is,.int .i64 x.v.code] 57)) ((AtB.new rfl) 5 _ rfl) (by rw[alz];exact hB)
   have b6:wr.cell? ⟨w.heap.size,6,none⟩=some (.int .i64 x.v.code):=cell_below (w:=w.alloc (.cells #[.int .i64 x.row,.int .i64 x.col,.int .i64 x.v.tag,.int .i64 x.v.num,.string x.v.str,.bool x.v.is,.int .i64 x.v.code] 57)) ((AtB.new rfl) 6 _ rfl) (by rw[alz];exact hB)
   have lb:=zA2 b0
   have hBw:Below w.heap.size w wr:=Below.trans (show Below w.heap.size w (w.alloc (.cells #[.int .i64 x.row,.int .i64 x.col,.int .i64 x.v.tag,.int .i64 x.v.num,.string x.v.str,.bool x.v.is,.int .i64 x.v.code] 57)) from bel) (hB.mono (Nat.le_succ _))
   have HB:=zh hBw
   clear hB
   go_wp2
   go_quiet (fail)
   go_wp2_with(first|(at_builtin;refine zC2 rfl _ _ 25 rfl w.heap.size 57 i0 7 Tryz.underlying25 hi hz1 _ _ _ rfl (World.ownsRow_nil _ _ _ _) _ rfl ?_)|(at_builtin;refine wpList_append_own _ rfl _ _ 25 rfl w.heap.size 57 i0 _ 7 64 Tryz.underlying25 hi hz0 hz1 hz2 rfl (by decide) _ _ _ rfl (World.ownsRow_nil _ _ _ _) _ 1 1 (En.cells x) rfl ?_ ?_ ?_ ?_ ?_ ?_ ?_))
   ·rfl
   ·exact fun i u hu=>zAJ (by simp) i u hu
   ·exact En.cells_one x
   ·simp only[maxLen];omega
   ·omega
   ·have:=HB.out.size;simp;omega
   ·intro v2 w4 hown2 hgrow2 _
    have S2:=zAE.step (show zAE w wr 57 7 (.slice none 0 0) 0 [] from ⟨HB.out,World.ownsRow_nil _ _ _ _⟩) bel hown2 hgrow2
    have HS2:=zh S2
    clear hown2 hgrow2 S2 b0 b1 b2 b3 b4 b5 b6
    go_wp2_with(at_builtin;refine zC2 rfl _ _ 25 rfl w.heap.size 57 i0 7 Tryz.underlying25 hi hz1 _ _ _ rfl (zA7 HS2.out.2 bel) _ rfl ?_)
    go_ret
    refine⟨_,rfl,HS2.out.1,own_mono ?_ hb0⟩
    have h:=HS2.out.2
    rw[HPL.out]
    simpa [zBi] using h
 ·have HCL:=zh (show 0<l.length->∀ i u,(zBi En.cells l)[i]? =some u->w.cell? ⟨g,i,none⟩=some u from fun h0=>by
   obtain⟨g',c',e1,-,-,-,-,hcl,-⟩:=zAf hown h0
   cases e1
   exact hcl)
  clear hown
  go_enter Tryz.func18,Tryz.ntmps18
  go_wp2_with(first|(go_at_call 15;refine mB (HM.out _) ?_;intro l1 n1)|(go_at_call 31;refine mB (HC.out _) ?_;intro l2 n2))
  go_loopw [7] (fun t wr=>∃ j:Nat,j<=l.length/\t=.int .i64 j/\Below (w.heap.size+1) (w.alloc (.cells #[.int .i64 x.row,.int .i64 x.col,.int .i64 x.v.tag,.int .i64 x.v.num,.string x.v.str,.bool x.v.is,.int .i64 x.v.code] 57)) wr/\RowKit.Hid (∀ k e,k<j->l[k]? =some e->befE x e=true)) (fun t _=>l.length-(intOf t).toNat)
  case atStart=>exact⟨0,Nat.zero_le _,rfl,bel,zh fun k e hk=>absurd hk (by omega)⟩
  case round =>
   obtain⟨j,hj,rfl,hB,hbf⟩:=hrel
   have hs:=hB.size
   rw[alz] at hs
   have b0:wr.cell? ⟨w.heap.size,0,none⟩=some (.int .i64 x.row):=cell_below (w:=w.alloc (.cells #[.int .i64 x.row,.int .i64 x.col,.int .i64 x.v.tag,.int .i64 x.v.num,.string x.v.str,.bool x.v.is,.int .i64 x.v.code] 57)) ((AtB.new rfl) 0 _ rfl) (by rw[alz];exact hB)
   have b1:wr.cell? ⟨w.heap.size,1,none⟩=some (.int .i64 x.col):=cell_below (w:=w.alloc (.cells #[.int .i64 x.row,.int .i64 x.col,.int .i64 x.v.tag,.int .i64 x.v.num,.string x.v.str,.bool x.v.is,.int .i64 x.v.code] 57)) ((AtB.new rfl) 1 _ rfl) (by rw[alz];exact hB)
   have b2:wr.cell? ⟨w.heap.size,2,none⟩=some (.int .i64 x.v.tag):=cell_below (w:=w.alloc (.cells #[.int .i64 x.row,.int .i64 x.col,.int .i64 x.v.tag,.int .i64 x.v.num,.string x.v.str,.bool x.v.is,.int .i64 x.v.code] 57)) ((AtB.new rfl) 2 _ rfl) (by rw[alz];exact hB)
   have b3:wr.cell? ⟨w.heap.size,3,none⟩=some (.int .i64 x.v.num):=cell_below (w:=w.alloc (.cells #[.int .i64 x.row,.int .i64 x.col,.int .i64 x.v.tag,.int .i64 x.v.num,.string x.v.str,.bool x.v.is,.int .i64 x.v.code] 57)) ((AtB.new rfl) 3 _ rfl) (by rw[alz];exact hB)
   have b4:wr.cell? ⟨w.heap.size,4,none⟩=some (.string x.v.str):=cell_below (w:=w.alloc (.cells #[.int .i64 x.row,.int .i64 x.col,.int .i64 x.v.tag,.int .i64 x.v.num,.string x.v.str,.bool x.v.is,.int .i64 x.v.code] 57)) ((AtB.new rfl) 4 _ rfl) (by rw[alz];exact hB)
   have b5:wr.cell? ⟨w.heap.size,5,none⟩=some (.bool x.v.is):=cell_below (w:=w.alloc (.cells #[.int .i64 x.row,.int .i64 x.col,.int .i64 x.v.tag,.int .i64 x.v.num,.string x.v.str,.bool x.v.is,.int .i64 x.v.code] 57)) ((AtB.new rfl) 5 _ rfl) (by rw[alz];exact hB)
   have b6:wr.cell? ⟨w.heap.size,6,none⟩=some (.int .i64 x.v.code):=cell_below (w:=w.alloc (.cells #[.int .i64 x.row,.int .i64 x.col,.int .i64 x.v.tag,.int .i64 x.v.num,.string x.v.str,.bool x.v.is,.int .i64 x.v.code] 57)) ((AtB.new rfl) 6 _ rfl) (by rw[alz];exact hB)
   have lb:=zA2 b0
   have hBw:Below w.heap.size w wr:=Below.trans (show Below w.heap.size w (w.alloc (.cells #[.int .i64 x.row,.int .i64 x.col,.int .i64 x.v.tag,.int .i64 x.v.num,.string x.v.str,.bool x.v.is,.int .i64 x.v.code] 57)) from bel) (hB.mono (Nat.le_succ _))
   have HB:=zh hBw
   have HB1:=zh hB
   clear hB
   by_cases hlt:j<l.length
   ·obtain⟨e,he⟩:∃ e,l[j]? =some e:=⟨_,List.getElem?_eq_getElem hlt⟩
    have hcell:∀ i u,e.cells[i]? =some u->wr.cell? ⟨g,j*7+i,none⟩=some u:=fun i u hu=>cell_below (HCL.out (by omega) _ u (zA9 En.cells 7 En.cells_length l j e he i u hu)) hBw
    have c0:=hcell 0 _ rfl
    have c1:=hcell 1 _ rfl
    simp only[Nat.add_zero] at c0
    have lc:=zA2 c0
    have HBF:=zh (fun w=>ref03_Before e.row e.col x.row x.col w)
    clear hcell
    cases hbe:befE x e
    ·have hbe':befB e.row e.col x.row x.col=false:=hbe
     rw[hbe'] at HBF
     have hat:atE l x=j:=at_stop hj hbf.out (.inr ⟨e,he,hbe⟩)
     have hp:=HPUT.out
     rw[hat,he] at hp
     have hjc:j<c:=by omega
     have hq:=fun w=>eq_cells e.row e.col x.row x.col w
     by_cases hec:e.row=x.row/\e.col=x.col
     ·have hpl:R=l:=hp.trans (if_pos hec)
      have hqb:(e.row==x.row&&e.col==x.col)=true:=by simp[hec.1,hec.2]
      rw[hqb] at hq
      have HPL:=zh hpl
      clear hbf hbe hbe' hat hp hec hqb he hpl
      go_wp2
      (refine qmI ?_;(repeat(go_big_quiet_step (first|(go_at_call 32;exact Calls.zA6 (HBF.out _)))));refine qmE ?_;intro lq nq)
      go_wp2
      go_quiet (fail)
      go_wp2
      go_ret
      exact⟨_,rfl,bel,by rw[HPL.out];exact zA7 HO.out bel⟩
     ·have hpl:R=l.take j++x::l.drop j:=hp.trans (if_neg hec)
      have hqb:(e.row==x.row&&e.col==x.col)=false:=by
       cases h1:(e.row==x.row&&e.col==x.col) with
       | false=>rfl
       | true =>
         simp only[Bool.and_eq_true,beq_iff_eq] at h1
         exact absurd h1 hec
      rw[hqb] at hq
      have HPL:=zh hpl
      clear hbf hbe hbe' hat hp hec hqb he hpl
      go_wp2
      (refine qmI ?_;(repeat(go_big_quiet_step (first|(go_at_call 32;exact Calls.zA6 (HBF.out _)))));refine qmE ?_;intro lq nq)
      go_wp2
      go_quiet (fail)
      go_wp2_with(at_builtin;refine wpList_append_own _ rfl _ _ 25 rfl w.heap.size 57 i0 _ 7 64 Tryz.underlying25 hi hz0 hz1 hz2 rfl (by decide) _ _ _ rfl (World.ownsRow_nil _ _ _ _) ⟨g,0,none⟩ j c (zBi En.cells (l.take j)) rfl ?_ ?_ ?_ ?_ ?_ ?_ ?_)
      ·rw[zAD En.cells 7 En.cells_length,List.length_take,Nat.min_eq_left (by omega)]
      ·intro i u hu
       rw[Addr.add_lit,Nat.zero_add]
       have h1:(zBi En.cells l)[i]? =some u:=by
        rw[show zBi En.cells l=zBi En.cells (l.take j)++zBi En.cells (l.drop j) from by rw[<- zAC,List.take_append_drop],List.getElem?_append_left (List.getElem?_eq_some_iff.1 hu).1]
        exact hu
       have h2:0<l.length:=by
        rcases Nat.eq_zero_or_pos l.length with h|h
        ·rw[List.length_eq_zero_iff.1 h] at h1
         cases h1
        ·exact h
       exact cell_below (HCL.out h2 i u h1) (HB.out.trans (by exact bel))
      ·exact flat_oneX _
      ·simp only[maxLen];omega
      ·omega
      ·have:=HB.out.size;simp;omega
      ·intro v1 w3 hown1 hgrow1 _
       have S1:=zAE.step (show zAE w wr 57 7 (.slice none 0 0) 0 [] from ⟨HB.out,World.ownsRow_nil _ _ _ _⟩) bel hown1 hgrow1
       have d0:w3.cell? ⟨w.heap.size,0,none⟩=some (.int .i64 x.row):=hgrow1.cell (by go_simp) (by simp[Value.ownBlock])
       have d1:w3.cell? ⟨w.heap.size,1,none⟩=some (.int .i64 x.col):=hgrow1.cell (by go_simp) (by simp[Value.ownBlock])
       have d2:w3.cell? ⟨w.heap.size,2,none⟩=some (.int .i64 x.v.tag):=hgrow1.cell (by go_simp) (by simp[Value.ownBlock])
       have d3:w3.cell? ⟨w.heap.size,3,none⟩=some (.int .i64 x.v.num):=hgrow1.cell (by go_simp) (by simp[Value.ownBlock])
       have d4:w3.cell? ⟨w.heap.size,4,none⟩=some (.string x.v.str):=hgrow1.cell (by go_simp) (by simp[Value.ownBlock])
       have d5:w3.cell? ⟨w.heap.size,5,none⟩=some (.bool x.v.is):=hgrow1.cell (by go_simp) (by simp[Value.ownBlock])
       have d6:w3.cell? ⟨w.heap.size,6,none⟩=some (.int .i64 x.v.code):=hgrow1.cell (by go_simp) (by simp[Value.ownBlock])
       have ld:=zA2 d0
       have HS1:=zh S1
       clear hown1 hgrow1 S1 b0 b1 b2 b3 b4 b5 b6
       go_wp2_with(at_builtin;refine wpList_append_own _ rfl _ _ 25 rfl w.heap.size 57 i0 _ 7 64 Tryz.underlying25 hi hz0 hz1 hz2 rfl (by decide) _ _ _ rfl (zA7 HS1.out.2 bel) _ 1 1 (En.cells x) rfl ?_ ?_ ?_ ?_ ?_ ?_ ?_)
       ·rfl
       ·exact fun i u hu=>zAJ (by simp) i u hu
       ·exact En.cells_one x
       ·simp only[maxLen];omega
       ·omega
       ·have:=HS1.out.1.size;simp;omega
       ·intro v2 w4 hown2 hgrow2 _
        have S2:=zAE.step HS1.out bel hown2 hgrow2
        have HS2:=zh S2
        clear hown2 hgrow2 S2 d0 d1 d2 d3 d4 d5 d6
        go_wp2_with(at_builtin;refine wpList_append_own _ rfl _ _ 25 rfl w.heap.size 57 i0 _ 7 64 Tryz.underlying25 hi hz0 hz1 hz2 rfl (by decide) _ _ _ rfl (zA7 HS2.out.2 bel) ⟨g,j*7,none⟩ (l.length-j) (c-j) (zBi En.cells (l.drop j)) rfl ?_ ?_ ?_ ?_ ?_ ?_ ?_)
        ·rw[zAD En.cells 7 En.cells_length,List.length_drop]
        ·intro i u hu
         rw[Addr.add_lit]
         refine cell_below (HCL.out (by omega) (j*7+i) u ?_) (HS2.out.1.trans (by exact bel))
         rw[show zBi En.cells l=zBi En.cells (l.take j)++zBi En.cells (l.drop j) from by rw[<- zAC,List.take_append_drop],List.getElem?_append_right (by rw[zAD En.cells 7 En.cells_length,List.length_take];omega),zAD En.cells 7 En.cells_length,List.length_take,Nat.min_eq_left (by omega),Nat.add_sub_cancel_left]
         exact hu
        ·exact flat_oneX _
        ·simp only[maxLen];omega
        ·omega
        ·have:=HS2.out.1.size;simp;omega
        ·intro v3 w5 hown3 hgrow3 _
         have S3:=zAE.step HS2.out bel hown3 hgrow3
         have HS3:=zh S3
         clear hown3 hgrow3 S3
         go_wp2
         go_ret
         refine⟨_,rfl,HS3.out.1,own_mono ?_ hb0⟩
         have h:=HS3.out.2
         rw[HPL.out]
         have e1:(l.take j++x::l.drop j).length=j+1+(l.length-j):=by simp;omega
         have e2:zBi En.cells (l.take j++x::l.drop j)=zBi En.cells (l.take j)++(x.cells++zBi En.cells (l.drop j)):=by rw[zAC];simp[zBi]
         rw[e1,e2]
         exact h
    ·have hbe':befB e.row e.col x.row x.col=true:=hbe
     rw[hbe'] at HBF
     have hbf2:=zh (show ∀ k e,k<j+1->l[k]? =some e->befE x e=true from fun k e' hk he'=>by
      by_cases hkj:k=j
      ·subst hkj
       rw[he] at he'
       cases he'
       exact hbe
      ·exact hbf.out k e' (by omega) he')
     clear hbf hbe hbe' he
     go_wp2
     (refine qmI ?_;(repeat(go_big_quiet_step (first|(go_at_call 32;exact Calls.zA6 (HBF.out _)))));refine qmE ?_;intro lq nq)
     go_wp2
     exact⟨⟨j+1,by omega,by go_num,HB1.out.trans (Below.mono (B:=wr.heap.size) (by exact bel) (by omega)),hbf2⟩,by simp[intOf];omega⟩
   ·obtain rfl:j=l.length:=by omega
    have hat:atE l x=l.length:=at_stop hj hbf.out (.inl (List.getElem?_eq_none (Nat.le_refl _)))
    have hp:=HPUT.out
    rw[hat,List.getElem?_eq_none (Nat.le_refl _),List.take_length,List.drop_length] at hp
    have HPL:=zh (show R=l++[x] from hp)
    clear hbf hat hp
    by_cases hlc:l.length<c
    ·have hlc2:l.length<=c:=by omega
     go_wp2
     go_quiet (fail)
     go_wp2_with(at_builtin;refine wpList_append_own _ rfl _ _ 25 rfl w.heap.size 57 i0 _ 7 64 Tryz.underlying25 hi hz0 hz1 hz2 rfl (by decide) _ _ _ rfl (World.ownsRow_nil _ _ _ _) ⟨g,0,none⟩ l.length c (zBi En.cells (l.take l.length)) rfl ?_ ?_ ?_ ?_ ?_ ?_ ?_)
     ·rw[zAD En.cells 7 En.cells_length,List.length_take,Nat.min_eq_left (by omega)]
     ·intro i u hu
      rw[Addr.add_lit,Nat.zero_add]
      have h1:(zBi En.cells l)[i]? =some u:=by
       rw[show zBi En.cells l=zBi En.cells (l.take l.length)++zBi En.cells (l.drop l.length) from by rw[<- zAC,List.take_append_drop],List.getElem?_append_left (List.getElem?_eq_some_iff.1 hu).1]
       exact hu
      have h2:0<l.length:=by
       rcases Nat.eq_zero_or_pos l.length with h|h
       ·rw[List.length_eq_zero_iff.1 h] at h1
        cases h1
       ·exact h
      exact cell_below (HCL.out h2 i u h1) (HB.out.trans (by exact bel))
     ·exact flat_oneX _
     ·simp only[maxLen];omega
     ·omega
     ·have:=HB.out.size;simp;omega
     ·intro v1 w3 hown1 hgrow1 _
      have S1:=zAE.step (show zAE w wr 57 7 (.slice none 0 0) 0 [] from ⟨HB.out,World.ownsRow_nil _ _ _ _⟩) bel hown1 hgrow1
      have d0:w3.cell? ⟨w.heap.size,0,none⟩=some (.int .i64 x.row):=hgrow1.cell (by go_simp) (by simp[Value.ownBlock])
      have d1:w3.cell? ⟨w.heap.size,1,none⟩=some (.int .i64 x.col):=hgrow1.cell (by go_simp) (by simp[Value.ownBlock])
      have d2:w3.cell? ⟨w.heap.size,2,none⟩=some (.int .i64 x.v.tag):=hgrow1.cell (by go_simp) (by simp[Value.ownBlock])
      have d3:w3.cell? ⟨w.heap.size,3,none⟩=some (.int .i64 x.v.num):=hgrow1.cell (by go_simp) (by simp[Value.ownBlock])
      have d4:w3.cell? ⟨w.heap.size,4,none⟩=some (.string x.v.str):=hgrow1.cell (by go_simp) (by simp[Value.ownBlock])
      have d5:w3.cell? ⟨w.heap.size,5,none⟩=some (.bool x.v.is):=hgrow1.cell (by go_simp) (by simp[Value.ownBlock])
      have d6:w3.cell? ⟨w.heap.size,6,none⟩=some (.int .i64 x.v.code):=hgrow1.cell (by go_simp) (by simp[Value.ownBlock])
      have ld:=zA2 d0
      have HS1:=zh S1
      clear hown1 hgrow1 S1 b0 b1 b2 b3 b4 b5 b6
      go_wp2_with(at_builtin;refine wpList_append_own _ rfl _ _ 25 rfl w.heap.size 57 i0 _ 7 64 Tryz.underlying25 hi hz0 hz1 hz2 rfl (by decide) _ _ _ rfl (zA7 HS1.out.2 bel) _ 1 1 (En.cells x) rfl ?_ ?_ ?_ ?_ ?_ ?_ ?_)
      ·rfl
      ·exact fun i u hu=>zAJ (by simp) i u hu
      ·exact En.cells_one x
      ·simp only[maxLen];omega
      ·omega
      ·have:=HS1.out.1.size;simp;omega
      ·intro v2 w4 hown2 hgrow2 _
       have S2:=zAE.step HS1.out bel hown2 hgrow2
       have HS2:=zh S2
       clear hown2 hgrow2 S2 d0 d1 d2 d3 d4 d5 d6
       go_wp2_with(at_builtin;refine wpList_append_own _ rfl _ _ 25 rfl w.heap.size 57 i0 _ 7 64 Tryz.underlying25 hi hz0 hz1 hz2 rfl (by decide) _ _ _ rfl (zA7 HS2.out.2 bel) _ 0 _ ([]) rfl ?_ ?_ ?_ ?_ ?_ ?_ ?_)
       ·rfl
       ·exact fun i u hu=>by cases hu
       ·exact fun u hu=>by cases hu
       ·simp only[maxLen];omega
       ·omega
       ·have:=HS2.out.1.size;simp;omega
       ·intro v3 w5 hown3 hgrow3 _
        have S3:=zAE.step HS2.out bel hown3 hgrow3
        have HS3:=zh S3
        clear hown3 hgrow3 S3
        go_wp2
        go_ret
        refine⟨_,rfl,HS3.out.1,own_mono ?_ hb0⟩
        have h:=HS3.out.2
        rw[HPL.out]
        have e1:(l++[x]).length=l.length+1:=by simp
        have e2:zBi En.cells (l++[x])=zBi En.cells l++x.cells:=by rw[zAC];simp[zBi]
        rw[e1,e2]
        exact h
    ·obtain rfl:c=l.length:=by omega
     have hmm:l.length<=l.length:=Nat.le_refl _
     go_wp2
     go_quiet (fail)
     go_wp2_with(at_builtin;refine wpList_append_own _ rfl _ _ 25 rfl w.heap.size 57 i0 _ 7 64 Tryz.underlying25 hi hz0 hz1 hz2 rfl (by decide) _ _ _ rfl (World.ownsRow_nil _ _ _ _) ⟨g,0,none⟩ l.length l.length (zBi En.cells (l.take l.length)) rfl ?_ ?_ ?_ ?_ ?_ ?_ ?_)
     ·rw[zAD En.cells 7 En.cells_length,List.length_take,Nat.min_eq_left (by omega)]
     ·intro i u hu
      rw[Addr.add_lit,Nat.zero_add]
      have h1:(zBi En.cells l)[i]? =some u:=by
       rw[show zBi En.cells l=zBi En.cells (l.take l.length)++zBi En.cells (l.drop l.length) from by rw[<- zAC,List.take_append_drop],List.getElem?_append_left (List.getElem?_eq_some_iff.1 hu).1]
       exact hu
      have h2:0<l.length:=by
       rcases Nat.eq_zero_or_pos l.length with h|h
       ·rw[List.length_eq_zero_iff.1 h] at h1
        cases h1
       ·exact h
      exact cell_below (HCL.out h2 i u h1) (HB.out.trans (by exact bel))
     ·exact flat_oneX _
     ·simp only[maxLen];omega
     ·omega
     ·have:=HB.out.size;simp;omega
     ·intro v1 w3 hown1 hgrow1 _
      have S1:=zAE.step (show zAE w wr 57 7 (.slice none 0 0) 0 [] from ⟨HB.out,World.ownsRow_nil _ _ _ _⟩) bel hown1 hgrow1
      have d0:w3.cell? ⟨w.heap.size,0,none⟩=some (.int .i64 x.row):=hgrow1.cell (by go_simp) (by simp[Value.ownBlock])
      have d1:w3.cell? ⟨w.heap.size,1,none⟩=some (.int .i64 x.col):=hgrow1.cell (by go_simp) (by simp[Value.ownBlock])
      have d2:w3.cell? ⟨w.heap.size,2,none⟩=some (.int .i64 x.v.tag):=hgrow1.cell (by go_simp) (by simp[Value.ownBlock])
      have d3:w3.cell? ⟨w.heap.size,3,none⟩=some (.int .i64 x.v.num):=hgrow1.cell (by go_simp) (by simp[Value.ownBlock])
      have d4:w3.cell? ⟨w.heap.size,4,none⟩=some (.string x.v.str):=hgrow1.cell (by go_simp) (by simp[Value.ownBlock])
      have d5:w3.cell? ⟨w.heap.size,5,none⟩=some (.bool x.v.is):=hgrow1.cell (by go_simp) (by simp[Value.ownBlock])
      have d6:w3.cell? ⟨w.heap.size,6,none⟩=some (.int .i64 x.v.code):=hgrow1.cell (by go_simp) (by simp[Value.ownBlock])
      have ld:=zA2 d0
      have HS1:=zh S1
      clear hown1 hgrow1 S1 b0 b1 b2 b3 b4 b5 b6
      go_wp2_with(at_builtin;refine wpList_append_own _ rfl _ _ 25 rfl w.heap.size 57 i0 _ 7 64 Tryz.underlying25 hi hz0 hz1 hz2 rfl (by decide) _ _ _ rfl (zA7 HS1.out.2 bel) _ 1 1 (En.cells x) rfl ?_ ?_ ?_ ?_ ?_ ?_ ?_)
      ·rfl
      ·exact fun i u hu=>zAJ (by simp) i u hu
      ·exact En.cells_one x
      ·simp only[maxLen];omega
      ·omega
      ·have:=HS1.out.1.size;simp;omega
      ·intro v2 w4 hown2 hgrow2 _
       have S2:=zAE.step HS1.out bel hown2 hgrow2
       have HS2:=zh S2
       clear hown2 hgrow2 S2 d0 d1 d2 d3 d4 d5 d6
       go_wp2_with(at_builtin;refine wpList_append_own _ rfl _ _ 25 rfl w.heap.size 57 i0 _ 7 64 Tryz.underlying25 hi hz0 hz1 hz2 rfl (by decide) _ _ _ rfl (zA7 HS2.out.2 bel) _ 0 _ ([]) rfl ?_ ?_ ?_ ?_ ?_ ?_ ?_)
       ·rfl
       ·exact fun i u hu=>by cases hu
       ·exact fun u hu=>by cases hu
       ·simp only[maxLen];omega
       ·omega
       ·have:=HS2.out.1.size;simp;omega
       ·intro v3 w5 hown3 hgrow3 _
        have S3:=zAE.step HS2.out bel hown3 hgrow3
        have HS3:=zh S3
        clear hown3 hgrow3 S3
        go_wp2
        go_ret
        refine⟨_,rfl,HS3.out.1,own_mono ?_ hb0⟩
        have h:=HS3.out.2
        rw[HPL.out]
        have e1:(l++[x]).length=l.length+1:=by simp
        have e2:zBi En.cells (l++[x])=zBi En.cells l++x.cells:=by rw[zAC];simp[zBi]
        rw[e1,e2]
        exact h
theorem law_put (l:List En) (x:En) (h64:Is64 x.v.num) (v:Value) (base:Nat) (w:World) (hown:w.ownsRow base 57 7 v l.length (zBi En.cells l)) (hl:l.length<=1048576) (hb0:base<=w.heap.size) :
  Calls Tryz.prog 18 #[v,x.agg] w fun e w'=>∃ v',e=.returned v'/\Below w.heap.size w w'/\w'.ownsRow base 57 7 v' (putG l x).length (zBi En.cells (putG l x)):=by
 by_cases h:mayG x.v=false∨zCB x.row x.col=false
 ·refine(law_put_no l x h64 v w h).mono ?_
  rintro e w' ⟨rfl,hb⟩
  refine⟨_,rfl,hb,?_⟩
  rw[show putG l x=l from if_pos h]
  exact zA7 hown hb
 ·refine law_put_yes l x h64 v base w hown hl hb0 ?_ ?_
  ·cases h1:mayG x.v with
   | true=>rfl
   | false=>exact absurd (.inl h1) h
  ·cases h1:zCB x.row x.col with
   | true=>rfl
   | false=>exact absurd (.inr h1) h
theorem put_len (l:List En) (x:En):(putG l x).length<=l.length+1:=by
 have hk:(l.take (atE l x)++x::l.drop (atE l x)).length<=l.length+1:=by
  rw[List.length_append,List.length_cons,List.length_take,List.length_drop]
  omega
 unfold putG
 split
 ·omega
 ·split
  ·split
   ·omega
   ·exact hk
  ·exact hk
def tabE (es:List En):List En:=es.foldl putG []
theorem tabE_take (es:List En) (j:Nat) (e:En) (h:es[j]? =some e):tabE (es.take (j+1))=putG (tabE (es.take j)) e:=by
 unfold tabE
 rw[zBc h,List.foldl_append]
 rfl
theorem tabE_len (es:List En):∀ j,(tabE (es.take j)).length<=j:=by
 intro j
 induction j with
 | zero=>simp[tabE]
 | succ j ih =>
   by_cases h:j<es.length
   ·rw[tabE_take es j _ (List.getElem?_eq_getElem h)]
    have:=put_len (tabE (es.take j)) es[j]
    omega
   ·rw[List.take_of_length_le (by omega)] at ih ⊢
    omega
theorem law_tableX (es:List En) (told:List Td) (A ta:Option Addr) (n c tc:Nat) (tx:Value) (hn:Bool) (w:World) (hr:Reads w w.heap.size 7 A n (zBi En.cells es)) (hm:n<=1048576) (h64:∀ e∈es,Is64 e.v.num) (ht:Reads w w.heap.size 6 ta told.length (zBi Td.cells told)) :
  Calls Tryz.prog 6 #[.agg #[.slice A n c,tx,.bool hn,.slice ta told.length tc]] w fun e w'=>∃ A' c',e=.returned (.pointer (some ⟨w.heap.size+1,0,none⟩))/\Below w.heap.size w w'/\(∀ i,w'.frozen? ⟨w.heap.size+1,i,none⟩=false)/\∀ tp,SrcG w' w'.heap.size ⟨w.heap.size+1,A',c',tabE es,hn,ta,tc,told,tp,hn⟩ (.slice none 0 0) 0 []:=by
 have hlen:es.length=n:=by
  have:=hr.1
  rw[zAD En.cells 7 En.cells_length] at this
  omega
 have HR:=zh hr
 have HT:=zh ht
 have HL:=zh hlen
 have H64:=zh h64
 clear hr ht hlen h64
 go_enter Tryz.func6,Tryz.ntmps6
 go_wp2
 go_loopw [4] (fun t wr=>∃ (j:Nat) (v:Value),j<=n/\t=.int .i64 j/\Below w.heap.size w wr/\wr.cell? ⟨w.heap.size,0,none⟩=some (.slice A n c)/\AtB wr (w.heap.size+1) [v,.slice none 0 0,.bool hn,.slice ta told.length tc]/\(∀ i,wr.frozen? ⟨w.heap.size+1,i,none⟩=false)/\wr.ownsRow (w.heap.size+2) 57 7 v (tabE (es.take j)).length (zBi En.cells (tabE (es.take j)))) (fun t _=>n-(intOf t).toNat)
 case atStart =>
  refine⟨0,.slice none 0 0,Nat.zero_le _,rfl,bel,by go_simp,?_,fun i=>by go_simp,World.ownsRow_nil _ _ _ _⟩
  intro j u hu
  match j,hu with
  | 0,hu=>cases hu;go_simp
  | 1,hu=>cases hu;go_simp
  | 2,hu=>cases hu;go_simp
  | 3,hu=>cases hu;go_simp
  | _+4,hu=>cases hu
 case round =>
  obtain⟨j,v,hj,rfl,hB,hb0,hA,hf,hO⟩:=hrel
  have hs:=hB.size
  have t0:wr.cell? ⟨w.heap.size+1,0,none⟩=some v:=hA 0 _ rfl
  have t1:wr.cell? ⟨w.heap.size+1,1,none⟩=some (.slice none 0 0):=hA 1 _ rfl
  have t2:wr.cell? ⟨w.heap.size+1,2,none⟩=some (.bool hn):=hA 2 _ rfl
  have t3:wr.cell? ⟨w.heap.size+1,3,none⟩=some (.slice ta told.length tc):=hA 3 _ rfl
  have tf:=hf 0
  have lt:=zA2 t0
  by_cases hlt:j<n
  ·obtain⟨e,he⟩:∃ e,es[j]? =some e:=⟨_,List.getElem?_eq_getElem (show j<es.length by have:=HL.out;omega)⟩
   obtain⟨bk,off,rfl,hbk,hc⟩:=HR.out.2 (by omega)
   have hcell:∀ i u,e.cells[i]? =some u->wr.cell? ⟨bk,off+(j*7+i),none⟩=some u:=fun i u hu=>cell_below (hc _ u (zA9 En.cells 7 En.cells_length es j e he i u hu)) hB
   have c0:=hcell 0 _ rfl
   have c1:=hcell 1 _ rfl
   have c2:=hcell 2 _ rfl
   have c3:=hcell 3 _ rfl
   have c4:=hcell 4 _ rfl
   have c5:=hcell 5 _ rfl
   have c6:=hcell 6 _ rfl
   simp only[<- Nat.add_assoc,Nat.add_zero] at c0 c1 c2 c3 c4 c5 c6
   have lc:=zA2 c0
   have HB:=zh hB
   have HA:=zh hA
   have HF:=zh hf
   have HO:=zh hO
   have HTK:=zh (tabE_take es j e he)
   have HLE:=zh (tabE_len es j)
   have HE:=zh (H64.out e (List.mem_of_getElem? he))
   obtain⟨ts,hts⟩:∃ ts,tabE (es.take j)=ts:=⟨_,rfl⟩
   rw[hts] at HO HTK HLE
   clear hcell hc he hA hf hO hts
   go_wp2
   go_region_law (first|(go_simp;go_at_call 18;refine(law_put ts e HE.out v (w.heap.size+2) _ (zA7 HO.out bel) (by have:=HLE.out;omega) (by simp;omega)).mono ?_;rintro e1 w1 ⟨v1,rfl,hb1,hO1⟩;obtain⟨A1,cc1,rfl,-,-⟩:=zAk hO1;have q0:w1.cell? ⟨w.heap.size+1,0,none⟩=some v:=cell_below (by go_simp) hb1;have qf:∀ i,w1.frozen? ⟨w.heap.size+1,i,none⟩=false:=(fun i=>(World.frozen?_of_block (a:=⟨w.heap.size+1,i,none⟩) (hb1.block _ (by simp;omega))).trans (by have hfi:=HF.out i;go_simp));have qf0:=qf 0;have q1:w1.cell? ⟨w.heap.size+1,1,none⟩=some (.slice none 0 0):=cell_below (by go_simp) hb1;have q2:w1.cell? ⟨w.heap.size+1,2,none⟩=some (.bool hn):=cell_below (by go_simp) hb1;have q3:w1.cell? ⟨w.heap.size+1,3,none⟩=some (.slice ta told.length tc):=cell_below (by go_simp) hb1;have q8:w1.cell? ⟨w.heap.size,0,none⟩=some (.slice (some ⟨bk,off,none⟩) n c):=cell_below (by go_simp) hb1;have HBW:=zh (Below.trans (show Below w.heap.size w _ from bel) (hb1.mono (by simp;omega)));have HB1:=zh hb1;have HO1:=zh hO1;clear hb1 hO1))
   all_goals
    go_wp2_with fail
    have hs1:=HB1.out.size
    refine⟨⟨j+1,.slice A1 (putG ts e).length cc1,by omega,by go_num,HBW.out.setCell (by show w.heap.size<=w.heap.size+1;omega) _,(World.cell?_setCell_other _ _ _ _ (by simp)).trans q8,fun k u hu=> ?_,fun i=>(World.frozen?_setCell _ _ _ _).trans (qf i),?_⟩,by simp[intOf];omega⟩
    ·match k,hu with
     | 0,hu=>cases hu;exact World.cell?_setCell_same _ _ _ q0
     | 1,hu=>cases hu;exact(World.cell?_setCell_other _ _ _ _ (by simp)).trans q1
     | 2,hu=>cases hu;exact(World.cell?_setCell_other _ _ _ _ (by simp)).trans q2
     | 3,hu=>cases hu;exact(World.cell?_setCell_other _ _ _ _ (by simp)).trans q3
     | _+4,hu=>cases hu
    ·rw[HTK.out]
     exact ownsRow_setCell_below HO1.out (by show w.heap.size+1<w.heap.size+2;omega) _
  ·obtain rfl:j=n:=by omega
   have htk:es.take j=es:=List.take_of_length_le (by rw[HL.out];exact Nat.le_refl _)
   rw[htk] at hO
   have HO:=zh hO
   have HB:=zh hB
   have HA:=zh hA
   have HF:=zh hf
   clear hO hA hf htk
   go_wp2
   go_ret
   have hOv:=HO.out
   obtain⟨A',c',rfl,-,-⟩:=zAk hOv
   refine⟨A',c',rfl,HB.out,HF.out,fun tp=>⟨by omega,Nat.le_refl _,HA.out,HF.out 1,?_,?_,World.ownsRow_nil _ _ _ _⟩⟩
   ·refine⟨by rw[zAD En.cells 7 En.cells_length],fun h0=> ?_⟩
    obtain⟨g',c2,e1,-,-,hg1,hg2,hcl,-⟩:=zAf hOv h0
    cases e1
    exact⟨g',0,rfl,hg2,by show g'≠w.heap.size+1;omega,fun i u hu=>by rw[Nat.zero_add];exact hcl i u hu⟩
   ·refine⟨HT.out.1,fun h0=> ?_⟩
    obtain⟨b,off,e1,hb,hc⟩:=HT.out.2 h0
    exact⟨b,off,e1,by omega,by show b≠w.heap.size+1;omega,fun i u hu=>cell_below (hc i u hu) HB.out⟩
end Go.Proofs.YtppghgnhlgoagaaGreatDoor
