import Derived.Lib.Bytealg
set_option linter.unusedVariables false
set_option linter.unusedSimpArgs false
namespace Go.Proofs.YtjdjljgbfpkbdaaGreatDoor.Q
def pieces:List UInt8→List (List UInt8)
 | [] => [[]]
 | b :: t => if b=10 then [10] :: pieces t else
  match pieces t with
  | [] => [[b]]
  | p :: ps => (b :: p) :: ps
theorem pieces_cons (b:UInt8) (t:List UInt8):pieces (b :: t)=if b=10 then [10] :: pieces t else match pieces t with|[] => [[b]]|p :: ps => (b :: p) :: ps:=rfl
theorem pieces_ne (s:List UInt8):pieces s≠[]:=by
 cases s with
 | nil => simp [pieces]
 | cons b t =>
  unfold pieces
  split
  ·simp
  ·split <;> simp
theorem pieces_last:∀ (s:List UInt8),(∀ b ∈ s,b≠10)→pieces s=[s]
 | [],_ => rfl
 | b :: t,h => by
  have ht:=pieces_last t fun x hx => h x (List.mem_cons_of_mem _ hx)
  rw [pieces_cons,if_neg (h b List.mem_cons_self),ht]
theorem pieces_step:∀ (p t:List UInt8),(∀ b ∈ p,b≠10)→pieces (p++10 :: t)=(p++[10]) :: pieces t
 | [],t,_ => by simp [pieces]
 | b :: p,t,h => by
  have ht:=pieces_step p t fun x hx => h x (List.mem_cons_of_mem _ hx)
  show pieces (b :: (p++10 :: t))=_
  rw [pieces_cons,if_neg (h b List.mem_cons_self),ht]
  simp
theorem pieces_flat:∀ (s:List UInt8),(pieces s).flatten=s
 | [] => by simp [pieces]
 | b :: t => by
  have ht:=pieces_flat t
  unfold pieces
  split
  ·rename_i h;simp [ht,h]
  ·split
   ·rename_i h;exact absurd h (pieces_ne t)
   ·rename_i p ps h;rw [h] at ht;simpa using ht
theorem pieces_len:∀ (s:List UInt8),(pieces s).length≤s.length+1
 | [] => by simp [pieces]
 | b :: t => by
  have ht:=pieces_len t
  unfold pieces
  split
  ·simp;omega
  ·split
   ·simp
   ·rename_i p ps h;rw [h] at ht;simp at ht ⊢;omega
theorem pieces_index:∀ r:List UInt8,(Lib.indexByte r 10=-1∧pieces r=[r])∨∃ i:Nat,Lib.indexByte r 10=i∧i<r.length∧pieces r=r.take (i+1) :: pieces (r.drop (i+1))
 | [] => .inl ⟨rfl,rfl⟩
 | b :: t => by
  by_cases hb:b=10
  ·subst hb
   exact .inr ⟨0,by simp [Lib.indexByte],by simp,by simp [pieces]⟩
  ·have hb':(b == 10)=false:=by simpa using hb
   rcases pieces_index t with ⟨h1,h2⟩|⟨i,h1,h2,h3⟩
   ·refine .inl ⟨by simp [Lib.indexByte,hb',h1],?_⟩
    rw [pieces_cons,if_neg hb,h2]
   ·refine .inr ⟨i+1,?_,by simpa using h2,?_⟩
    ·simp only [Lib.indexByte,hb',h1]
     have:((i:Int) == -1)=false:=by simp
     simp [this]
    ·rw [pieces_cons,if_neg hb,h3]
     simp
end Go.Proofs.YtjdjljgbfpkbdaaGreatDoor.Q
