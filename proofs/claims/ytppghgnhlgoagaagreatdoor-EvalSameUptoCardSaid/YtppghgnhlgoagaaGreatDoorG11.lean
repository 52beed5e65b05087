/- Parts. -/
import Derived.Test.YtppghgnhlgoagaaGreatDoorG10
set_option linter.all false
set_option maxRecDepth 100000
set_option maxHeartbeats 4000000
namespace Go.Proofs.YtppghgnhlgoagaaGreatDoor
open Go Go.RowKit
open Go.Lib renaming hid->zh
def nmGo:List UInt8->Nat->Nat->Nat->Bool
 | [],i,L,D=>D==0 || decide (L+D<i)
 | c::l,i,L,D =>
   if (65<=c.toNat/\c.toNat<=90)/\L=i then nmGo l (i+1) (L+1) D
   else if (48<=c.toNat/\c.toNat<=57)/\0<i/\L+D=i then nmGo l (i+1) L (D+1)
   else if 0<i/\((65<=c.toNat/\c.toNat<=90)∨(48<=c.toNat/\c.toNat<=57)∨c.toNat=95) then nmGo l (i+1) L D
   else false
def namedX (s:ByteArray):Bool:=if s.size<1∨16<s.size∨s.toList=[84,82,85,69]∨s.toList=[70,65,76,83,69] then false else nmGo s.data.toList 0 0 0
theorem nm_drop (s:ByteArray) (k:Nat) (h:k<s.size):s.data.toList.drop k=s[k]::s.data.toList.drop (k+1):=by
 rw[List.drop_eq_getElem_cons (show k<s.data.toList.length by simpa using h)]
 rfl
theorem nm_cons (c:UInt8) (l:List UInt8) (i L D:Nat):nmGo (c::l) i L D=if (65<=c.toNat/\c.toNat<=90)/\L=i then nmGo l (i+1) (L+1) D
 else if (48<=c.toNat/\c.toNat<=57)/\0<i/\L+D=i then nmGo l (i+1) L (D+1)
 else if 0<i/\((65<=c.toNat/\c.toNat<=90)∨(48<=c.toNat/\c.toNat<=57)∨c.toNat=95) then nmGo l (i+1) L D
 else false:=rfl
theorem refs_named (s:ByteArray) (hs:s.size<=1000000000000) (w:World):Calls Tryz.prog 79 #[.string s] w fun e w'=>e=.returned (.bool (namedX s))/\w=w':=by
 by_cases h1:1<=s.size/\s.size<=16/\s.toList≠[84,82,85,69]/\s.toList≠[70,65,76,83,69]
 ·obtain⟨R,hR⟩:∃ R,nmGo s.data.toList 0 0 0=R:=⟨_,rfl⟩
  have e:namedX s=R:=by rw[<- hR];exact if_neg (by rintro(h|h|h|h)<;>first|omega|exact h1.2.2.1 h|exact h1.2.2.2 h)
  obtain⟨h1,h2,h3,h4⟩:=h1
  have i1:(1:Int)<=(s.size:Int):=by omega
  have i2:(s.size:Int)<=16:=by omega
  have i4:(s.toList==[70,65,76,83,69])=false:=by simp[h4]
  rw[e]
  have HR:=zh hR
  clear e hR h4
  go_enter Tryz.func79,Tryz.ntmps79
  go_wp2
  go_loop [3,4,25] (fun a b i=>∃ k L D:Nat,k<=s.size/\L<=k/\D<=k/\a=.int .i64 L/\b=.int .i64 D/\i=.int .i64 k/\nmGo (s.data.toList.drop k) k L D=R) (fun _ _ i=>s.size-(intOf i).toNat)
  case atStart=>exact⟨0,0,0,by omega,by omega,by omega,rfl,rfl,rfl,HR.out⟩
  case round =>
   obtain⟨k,L,D,hk,hL,hD,rfl,rfl,rfl,hg⟩:=hrel
   by_cases hlt:k<s.size
   ·rw[nm_drop s k hlt] at hg
    have HG:=zh hg
    have c0:(0:Int)<=((s[k].toNat:Nat):Int):=by omega
    have c1:((s[k].toNat:Nat):Int)<=255:=by have:=s[k].toNat_lt;omega
    have hq:((L:Int)==(k:Int))=decide (L=k):=by by_cases h:L=k<;>simp[h];omega
    have hq2:(((L:Int)+(D:Int))==(k:Int))=decide (L+D=k):=by by_cases h:L+D=k<;>simp[h]<;>omega
    have hq3:decide ((0:Int)<(k:Int))=decide (0<k):=by by_cases h:0<k<;>simp[h]<;>omega
    have hq4:(((s[k].toNat:Nat):Int)==95)=decide (s[k].toNat=95):=by by_cases h:s[k].toNat=95<;>simp[h];omega
    clear hg
    go_wp2
    all_goals first
     | (exfalso;omega)
     | (go_ret;exact⟨by rw[<- HG.out,nm_cons,if_neg (by omega),if_neg (by omega),if_neg (by omega)];rfl,rfl⟩)
     | (go_round
        case rel=>first
         | exact⟨k+1,L+1,D,by omega,by omega,by omega,by go_num,rfl,by go_num,by rw[<- HG.out,nm_cons,if_pos (by omega)]⟩
         | exact⟨k+1,L,D+1,by omega,by omega,by omega,rfl,by go_num,by go_num,by rw[<- HG.out,nm_cons,if_neg (by omega),if_pos (by omega)]⟩
         | exact⟨k+1,L,D,by omega,by omega,by omega,rfl,rfl,by go_num,by rw[<- HG.out,nm_cons,if_neg (by omega),if_neg (by omega),if_pos (by omega)]⟩
        case measure=>simp[intOf];omega)
   ·obtain rfl:k=s.size:=by omega
    rw[List.drop_eq_nil_of_le (by simp)] at hg
    have HG:=zh hg
    clear hg
    go_wp2
    all_goals first
     | (have hz:D=0:=by omega
        go_ret
        have hf:R=true:=by rw[<- HG.out,hz];rfl
        exact⟨by rw[hf];rfl,rfl⟩)
     | (have hz:D≠0:=by omega
        go_ret
        have hf:R=decide (L+D<s.size):=by rw[<- HG.out];simp[nmGo,hz]
        rw[hf]
        refine⟨congrArg (fun b=>Ending.returned (Value.bool b)) (?_:_=decide (L+D<s.size)),rfl⟩
        first|rfl|(simp;omega)|(by_cases h:L+D<s.size<;>simp[h]<;>omega))
 ·have e:namedX s=false:=if_pos (by
   by_cases a:s.size<1
   ·exact .inl a
   ·by_cases b:16<s.size
    ·exact .inr (.inl b)
    ·by_cases c:s.toList=[84,82,85,69]
     ·exact .inr (.inr (.inl c))
     ·by_cases d:s.toList=[70,65,76,83,69]
      ·exact .inr (.inr (.inr d))
      ·exact absurd ⟨by omega,by omega,c,d⟩ h1)
  rw[e]
  go_enter Tryz.func79,Tryz.ntmps79
  by_cases a:s.size<1
  ·have a1:(s.size:Int)<1:=by omega
   go_wp2
   all_goals(go_ret;exact⟨rfl,rfl⟩)
  ·have a1: ¬ (s.size:Int)<1:=by omega
   by_cases b:16<s.size
   ·have b1:(16:Int)<(s.size:Int):=by omega
    go_wp2
    all_goals(go_ret;exact⟨rfl,rfl⟩)
   ·have b1: ¬ (16:Int)<(s.size:Int):=by omega
    by_cases c:s.toList=[84,82,85,69]
    ·go_wp2
     all_goals(go_ret;exact⟨rfl,rfl⟩)
    ·have d:(s.toList==[70,65,76,83,69])=true:=by
      by_cases d:s.toList=[70,65,76,83,69]
      ·simp[d]
      ·exact absurd ⟨by omega,by omega,c,d⟩ h1
     clear e h1 a b
     go_wp2
     all_goals(go_ret;exact⟨rfl,rfl⟩)
end Go.Proofs.YtppghgnhlgoagaaGreatDoor
