/- The walk's evaluator and its laws (over whatever program), and contracts of the program's functions. -/
import Derived.Test.YtmmioohcgdnpdaaDoorAe3
import Derived.KernelRfl
import Derived.Lib.Mul64
set_option linter.all false
set_option maxRecDepth 100000
namespace D6
open Go Go.AE Go.Proofs
attribute [local irreducible] loopK evCode evSpec loopB norm
theorem enc_app:∀ (L M:List Ty),enc (L ++ M) = enc L ++ enc M
 | [],M=>rfl
 | t :: L,M=>by rw [List.cons_append,enc,enc,enc_app L M,List.append_assoc]
theorem enc1_len (t:Ty):(enc1 t).length = 6:=by
 unfold enc1
 rw [List.length_append,be_len]
 rfl
theorem enc_len:∀ L:List Ty,(enc L).length = 6 * L.length
 | []=>rfl
 | t :: L=>by rw [enc,List.length_append,enc1_len,enc_len L,List.length_cons]; omega
theorem enc_take {L:List Ty} {i:Nat} (h:i < L.length):enc (L.take (i + 1)) = enc (L.take i) ++ enc1 (L.getD i t0):=by
 rw [takeS t0 h,enc_app]
 congr 1
theorem u64_ok {o:Int} (h0:-2147483648≤o) (h1:o≤2147483647):IntKind.wrap .u64 (IntKind.wrap .i64 o) = ((u64 o:Nat):Int):=by
 rw [wrap64 (by omega) (by omega),wrapUm]
 unfold u64
 have:=Int.emod_nonneg o (by decide:(18446744073709551616:Int)≠0)
 exact (Int.toNat_of_nonneg this).symm
theorem u64_lt (o:Int):u64 o < 18446744073709551616:=by
 unfold u64
 have:=Int.emod_lt_of_pos o (by decide:(0:Int) < 18446744073709551616)
 have:=Int.emod_nonneg o (by decide:(18446744073709551616:Int)≠0)
 omega
theorem f12_ev (L:List Ty) (hL:∀ t ∈ L,okTy t) (hl:(L.length:Int)≤100000000000) (K:List AV→Prop) (hK:K [.new (.bytes (enc L))]):evSpec C3 Tryd.f55 [.imm (slT L)] K:=by
 unfold slT
 rw [f12_in]
 simp only [List.length_map]
 have ew:IntKind.wrap .i64 ((6:Int) * (L.length:Int)) = 6 * (L.length:Int):=wrap64 (by omega) (by omega)
 rw [ew]
 refine ⟨by omega,by omega,by omega,by omega,?_⟩
 unfold LoopI
 refine loop_rule (fun s:Nat×List UInt8=>h12 (L.map cellsT) s.2 s.1) (fun s=>s.1≤L.length∧s.2 = enc (L.take s.1)) (fun s=>L.length - s.1) (fun s hP K' hnorm hexit=>?_) rfl (0,[]) p12i _ ⟨Nat.zero_le _,rfl⟩ (by unfold h12; rw [List.length_map]; kernel_rfl)
 obtain ⟨i,l⟩:=s
 obtain ⟨hi,hll⟩:=hP
 simp only at hi hll
 rw [f12_lp]
 simp only [List.length_map]
 have e2:IntKind.wrap .i64 ((i:Int) + 1) = ((i + 1:Nat):Int):=by rw [wrap64 (by omega) (by omega)]; rfl
 have hlen:l.length = 6 * i:=by rw [hll,enc_len,List.length_take,Nat.min_eq_left hi]
 refine brn_intro (fun h1=>?_) (fun h1=>?_)
 ·simp only [decide_eq_true_eq] at h1
  have hlt:i < L.length:=by omega
  have hok:=hL _ (memD t0 hlt)
  have het:=enc_take hlt
  simp only [Int.toNat_natCast,getT hlt,kT,oT,dT,gT]
  generalize L.getD i t0 = t at hok het
  obtain ⟨q1,q2,q3,q4⟩:=hok
  have hu:=u64_lt t.o
  simp only [e2,u64_ok q1 q2,Int.toNat_natCast,List.length_append,be_len,List.map_cons,List.map_nil,List.length_cons,List.length_nil]
  rw [← hll] at het
  refine ⟨by omega,by omega,True.intro,by omega,by omega,by omega,by omega,by omega,brn_intro (fun h2=>?_) (fun h2=>?_)⟩
  ·refine ⟨by simp; omega,by simp; omega,hnorm (i + 1,l ++ be 4 (u64 t.o) ++ [u8 1,u8 t.g]) ⟨[],msk [3,11,12,13] 0 33,[2]⟩ _ ⟨hlt,?_⟩ (by simp only; omega) (by unfold h12; rw [List.length_map]; kernel_rfl)⟩
   simp only
   rw [het]
   unfold enc1
   rw [h2,if_pos rfl,List.append_assoc]
   rfl
  ·refine ⟨by simp; omega,by simp; omega,hnorm (i + 1,l ++ be 4 (u64 t.o) ++ [u8 0,u8 t.g]) ⟨[],msk [3,11,12,13] 0 33,[2]⟩ _ ⟨hlt,?_⟩ (by simp only; omega) (by unfold h12; rw [List.length_map]; kernel_rfl)⟩
   simp only
   rw [het]
   unfold enc1
   rw [h2,if_neg (by decide),List.append_assoc]
   rfl
 ·simp only [decide_eq_false_iff_not] at h1
  have hil:i = L.length:=by omega
  rw [hil,List.take_length] at hll
  rw [← hll] at hK
  exact hexit _ _ (by simp) (Eq.mp (by kernel_rfl) hK)
theorem f13_ev (L:List Ty) (hL:∀ t ∈ L,okTy t) (hl:(L.length:Int)≤100000000000) (K:List AV→Prop) (hK:K [.new (.bytes (enc L))]):evSpec C3 Tryd.f59 [.imm (slT L)] K:=by
 unfold slT
 rw [f13_in]
 unfold LoopI
 refine loop_rule (fun s:Nat×List UInt8=>h13 (L.map cellsT) s.2 s.1) (fun s=>s.1≤L.length∧s.2 = enc (L.take s.1)) (fun s=>L.length - s.1) (fun s hP K' hnorm hexit=>?_) rfl (0,[]) p13i _ ⟨Nat.zero_le _,rfl⟩ (by kernel_rfl)
 obtain ⟨i,l⟩:=s
 obtain ⟨hi,hll⟩:=hP
 simp only at hi hll
 rw [f13_lp]
 simp only [List.length_map]
 have e2:IntKind.wrap .i64 ((i:Int) + 1) = ((i + 1:Nat):Int):=by rw [wrap64 (by omega) (by omega)]; rfl
 have hlen:l.length = 6 * i:=by rw [hll,enc_len,List.length_take,Nat.min_eq_left hi]
 refine brn_intro (fun h1=>?_) (fun h1=>?_)
 ·simp only [decide_eq_true_eq] at h1
  have hlt:i < L.length:=by omega
  have hok:=hL _ (memD t0 hlt)
  have het:=enc_take hlt
  simp only [Int.toNat_natCast,getT hlt,kT,oT,dT,gT]
  generalize L.getD i t0 = t at hok het
  obtain ⟨q1,q2,q3,q4⟩:=hok
  have hu:=u64_lt t.o
  simp only [e2,u64_ok q1 q2,Int.toNat_natCast,List.length_append,be_len,List.map_cons,List.map_nil,List.length_cons,List.length_nil]
  rw [← hll] at het
  refine ⟨by omega,by omega,True.intro,by omega,by omega,by omega,by omega,by omega,by omega,by omega,True.intro,brn_intro (fun h2=>?_) (fun h2=>?_)⟩
  ·refine ⟨by omega,by omega,True.intro,by simp; omega,by simp; omega,hnorm (i + 1,l ++ be 4 (u64 t.o) ++ [u8 1,u8 t.g]) ⟨[],msk [0,3,4] 0 36,[1]⟩ _ ⟨hlt,?_⟩ (by simp only; omega) (by kernel_rfl)⟩
   simp only
   rw [het]
   unfold enc1
   rw [h2,if_pos rfl,List.append_assoc]
   rfl
  ·refine ⟨by omega,by omega,True.intro,by simp; omega,by simp; omega,hnorm (i + 1,l ++ be 4 (u64 t.o) ++ [u8 0,u8 t.g]) ⟨[],msk [0,3,4] 0 36,[1]⟩ _ ⟨hlt,?_⟩ (by simp only; omega) (by kernel_rfl)⟩
   simp only
   rw [het]
   unfold enc1
   rw [h2,if_neg (by decide),List.append_assoc]
   rfl
 ·simp only [decide_eq_false_iff_not] at h1
  have hil:i = L.length:=by omega
  rw [hil,List.take_length] at hll
  rw [← hll] at hK
  exact hexit _ _ (by simp) (Eq.mp (by kernel_rfl) hK)
end D6
set_option maxRecDepth 100000
namespace D6
open Go Go.AE Go.Proofs
attribute [local irreducible] loopK evCode evSpec loopB norm
theorem flags_false {b : List UInt8} {i : Nat} (h : flags b i = false) : ∀ k, i ≤ k → flags b k = false
  | 0, hk => by have : i = 0 := by omega
                subst this; exact h
  | k + 1, hk => by
    by_cases he : i = k + 1
    · rw [← he]; exact h
    · rw [flags, flags_false h k (by omega)]; rfl
theorem recs_len (b:List UInt8):∀ k,(recs b k).length = k
 | 0=>rfl
 | k + 1=>by rw [recs,List.length_append,recs_len b k]; rfl
theorem tdiv6 (n:Nat):IntKind.wrap .i64 (Int.tdiv (n:Int) 6) = ((n / 6:Nat):Int)∨¬ n≤1000000000000:=by
 by_cases h:n≤1000000000000
 ·left
  have:Int.tdiv (n:Int) 6 = ((n / 6:Nat):Int):=by simp [Int.tdiv]
  rw [this,wrap64 (by omega) (by omega)]
 ·exact .inr h
theorem sgn4 {u:Nat} (h:u < 256 ^ 4):-2147483648≤sgnN 4 u∧sgnN 4 u≤2147483647:=by
 unfold sgnN
 simp at h ⊢
 split <;> omega
theorem wrap32 {n:Int} (h1:-2147483648≤n) (h2:n≤2147483647):IntKind.wrap .i32 n = n:=by
 simp [IntKind.wrap,IntKind.min,IntKind.max,IntKind.signed,IntKind.bits]
 omega
theorem beq1 (x:UInt8):(((x.toNat:Nat):Int) == 1) = (x == 1):=by
 cases h:x == 1 with
 | true =>
  have:x = 1:=by simpa using h
  subst this; rfl
 | false =>
  have h1:x≠1:=by simpa using h
  simp only [beq_eq_false_iff_ne]
  intro e
  exact h1 (UInt8.toNat_inj.1 (by have:(1:UInt8).toNat = 1:=rfl; omega))
theorem recB_eq {b:List UInt8} {o:Nat} (h:o + 6≤b.length):cellsT (recB (b.drop o)) = [.int .i32 (sgnN 4 (uintP b o 4)),.bool (b.getD (o + 4) 0 == 1),.int .u8 ((b.getD (o + 5) 0).toNat:Int)]:=by
 have hr:okR b o 4 = true:=by unfold okR; simp only [decide_eq_true_eq]; omega
 unfold recB cellsT uintP
 rw [hr,if_pos rfl,getD_drop',getD_drop']
theorem recB_ok {b:List UInt8}:okTy (recB b):=by
 have h:=sgn4 (u:=beN (b.take 4)) (by
  have:=beN_lt (b.take 4)
  have h2:256 ^ (b.take 4).length≤256 ^ 4:=Nat.pow_le_pow_right (by decide) (by rw [List.length_take]; omega)
  omega)
 have:=(b.getD 5 0).toNat_lt
 exact ⟨h.1,h.2,by unfold recB; simp only; omega,by unfold recB; simp only; omega⟩
theorem recs_ok {b:List UInt8}:∀ k,∀ t ∈ recs b k,okTy t
 | 0,t,h=>by cases h
 | k + 1,t,h=>by
  rw [recs,List.mem_append] at h
  rcases h with h | h
  ·exact recs_ok k t h
  ·rw [List.mem_singleton.1 h]; exact recB_ok
theorem dec_ok {b:List UInt8}:∀ t ∈ dec b,okTy t:=by
 unfold dec
 split
 ·exact recs_ok _
 ·intro t h; cases h
theorem gt1 (x:UInt8):decide (((x.toNat:Nat):Int) > 1) = !decide (x.toNat≤1):=by
 by_cases h:x.toNat≤1
 ·rw [decide_eq_true h,decide_eq_false (by omega)]; rfl
 ·rw [decide_eq_false h,decide_eq_true (by omega)]; rfl
theorem f9_ev (b:List UInt8) (hb:(b.length:Int)≤1000000000000) (K:List AV→Prop) (hK:K [.new (slT (dec b)),bo (decOk b)]):evSpec C2 Tryd.f39 [.imm (.bytes b)] K:=by
 have hbig:big = 4611686018427387904:=rfl
 have e6:IntKind.wrap .i64 (Int.tdiv (b.length:Int) 6) = ((b.length / 6:Nat):Int):=by
  rcases tdiv6 b.length with h | h
  ·exact h
  ·omega
 rw [f9_in]
 unfold LoopI
 refine loop_rule (fun i:Nat=>h9a b i) (fun i=>i≤b.length / 6∧flags b i = true) (fun i=>b.length / 6 - i) (fun i hP K' hnorm hexit=>?_) rfl 0 p9a _ ⟨Nat.zero_le _,rfl⟩ (by kernel_rfl)
 obtain ⟨hi,hf⟩:=hP
 rw [f9_lpa,e6]
 have e2:IntKind.wrap .i64 ((i:Int) + 1) = ((i + 1:Nat):Int):=by rw [wrap64 (by omega) (by omega)]; rfl
 have e3:IntKind.wrap .i64 (IntKind.wrap .i64 ((6:Int) * (i:Int)) + 4) = ((6 * i + 4:Nat):Int):=by rw [wrap64 (n:=6 * (i:Int)) (by omega) (by omega),wrap64 (by omega) (by omega)]; omega
 refine ⟨by decide,brn_intro (fun h1=>?_) (fun h1=>?_)⟩
 ·simp only [decide_eq_true_eq] at h1
  simp only [e2,e3,Int.toNat_natCast,gt1]
  refine ⟨by omega,by omega,brn_intro (fun h2=>?_) (fun h2=>?_)⟩
  ·have hff:flags b (i + 1) = false:=by
    rw [flags,hf]
    simpa using h2
   have h0:=flags_false hff (b.length / 6) (by omega)
   unfold dec decOk at hK
   rw [h0] at hK
   exact hexit _ _ (by simp) (Eq.mp (by kernel_rfl) hK)
  ·refine hnorm (i + 1) p9a _ ⟨by omega,?_⟩ (by omega) (by kernel_rfl)
   rw [flags,hf]
   simpa using h2
 ·simp only [decide_eq_false_iff_not] at h1
  have hil:i = b.length / 6:=by omega
  rw [hil] at hf
  unfold dec decOk at hK
  rw [hf,if_pos rfl] at hK
  refine hexit _ _ (by simp) ?_
  have eo:=f9_out b i K
  rw [e6] at eo
  rw [eo]
  clear hexit hnorm eo h1 e2 e3 hil hi hf
  unfold LoopI
  refine loop_rule (fun s:Nat=>h9b b (recs b s) s) (fun i=>i≤b.length / 6) (fun i=>b.length / 6 - i) (fun i hi K' hnorm hexit=>?_) rfl 0 p9bi _ (Nat.zero_le _) (by kernel_rfl)
  rw [f9_lpb,e6]
  have e2:IntKind.wrap .i64 ((i:Int) + 1) = ((i + 1:Nat):Int):=by rw [wrap64 (by omega) (by omega)]; rfl
  have e3:IntKind.wrap .i64 (((6 * i:Nat):Int) + 4) = ((6 * i + 4:Nat):Int):=by rw [wrap64 (by omega) (by omega)]; omega
  have e4:IntKind.wrap .i64 (((6 * i:Nat):Int) + 5) = ((6 * i + 5:Nat):Int):=by rw [wrap64 (by omega) (by omega)]; omega
  have e5:IntKind.wrap .i64 ((6:Int) * (i:Int)) = ((6 * i:Nat):Int):=by rw [wrap64 (by omega) (by omega)]; omega
  have el:=recs_len b i
  refine ⟨by decide,brn_intro (fun h1=>?_) (fun h1=>?_)⟩
  ·simp only [decide_eq_true_eq] at h1
   have hu:=sgn4 (uintP_lt b (6 * i) 4)
   have e7:=wrap32 hu.1 hu.2
   have e8:Int.toNat (4:Int) = 4:=rfl
   have hc:=recB_eq (b:=b) (o:=6 * i) (by omega)
   have hm:(recs b (i + 1)).map cellsT = (recs b i).map cellsT ++ [cellsT (recB (b.drop (6 * i)))]:=by rw [recs,List.map_append]; rfl
   rw [hc] at hm
   simp only [e2,e3,e4,e5,Int.toNat_natCast,e8,e7,beq1,← hm]
   refine ⟨by omega,by omega,by omega,by decide,by decide,by omega,by omega,by omega,by omega,by simp [el]; omega,by simp [el]; omega,hnorm (i + 1) ⟨[],msk [0,5,6] 0 57,[0]⟩ _ (by omega) (by omega) (by kernel_rfl)⟩
  ·simp only [decide_eq_false_iff_not] at h1
   have hil:i = b.length / 6:=by omega
   rw [← hil] at hK
   exact hexit _ _ (by simp) (Eq.mp (by kernel_rfl) hK)
end D6
set_option maxRecDepth 100000
namespace D6
open Go Go.AE Go.Proofs
attribute [local irreducible] loopK evCode evSpec loopB norm
theorem getD_take {b:List UInt8} {n i:Nat} (h:i < n):(b.take n).getD i 0 = b.getD i 0:=by
 simp only [List.getD_eq_getElem?_getD,List.getElem?_take,if_pos h]
theorem uintP_at {b:List UInt8} {o:Nat} (h:o + 6≤b.length):uintP ((b.drop o).take 6) 0 4 = uintP b o 4:=by
 have h1:okR ((b.drop o).take 6) 0 4 = true:=by
  unfold okR
  simp only [decide_eq_true_eq,List.length_take,List.length_drop]
  omega
 have h2:okR b o 4 = true:=by
  unfold okR
  simp only [decide_eq_true_eq]
  omega
 unfold uintP
 rw [h1,h2,if_pos rfl,if_pos rfl,List.drop_zero,List.take_take]
 rfl
theorem f8_ev (b:List UInt8) (hb:(b.length:Int)≤1000000000000) (K:List AV→Prop) (hK:K [.new (slT (dec b)),bo (decOk b)]):evSpec C8 Tryd.f31 [.imm (.bytes b)] K:=by
 have hbig:big = 4611686018427387904:=rfl
 rw [f8_in]
 unfold LoopI
 refine loop_rule (fun i:Nat=>h8 b (recs b i) (6 * i)) (fun i=>i≤b.length / 6∧flags b i = true) (fun i=>b.length / 6 - i) (fun i hP K' hnorm hexit=>?_) rfl 0 p8i _ ⟨Nat.zero_le _,rfl⟩ (by kernel_rfl)
 obtain ⟨hi,hf⟩:=hP
 rw [f8_lp]
 have e1:IntKind.wrap .i64 (((6 * i:Nat):Int) + 6) = ((6 * (i + 1):Nat):Int):=by rw [wrap64 (by omega) (by omega)]; omega
 have el:=recs_len b i
 rw [e1]
 refine brn_intro (fun h1=>?_) (fun h1=>?_)
 ·simp only [decide_eq_true_eq] at h1
  have hi1:i + 1≤b.length / 6:=by omega
  have e2:6 * (i + 1) - 6 * i = 6:=by omega
  have hs:((b.drop (6 * i)).take 6).length = 6:=by rw [List.length_take,List.length_drop]; omega
  have g4:((b.drop (6 * i)).take 6).getD 4 0 = b.getD (6 * i + 4) 0:=by rw [getD_take (by decide),getD_drop']
  have g5:((b.drop (6 * i)).take 6).getD 5 0 = b.getD (6 * i + 5) 0:=by rw [getD_take (by decide),getD_drop']
  have hu:=sgn4 (uintP_lt b (6 * i) 4)
  have e7:=wrap32 hu.1 hu.2
  have t0:Int.toNat (0:Int) = 0:=rfl
  have t4:Int.toNat (4:Int) = 4:=rfl
  have t5:Int.toNat (5:Int) = 5:=rfl
  have hua:=uintP_at (b:=b) (o:=6 * i) (by omega)
  have hc:=recB_eq (b:=b) (o:=6 * i) (by omega)
  have hm:(recs b (i + 1)).map cellsT = (recs b i).map cellsT ++ [cellsT (recB (b.drop (6 * i)))]:=by rw [recs,List.map_append]; rfl
  rw [hc] at hm
  have ea:IntKind.wrap .i64 ((0:Int) + 1) = 1:=rfl
  simp only [Int.toNat_natCast,e2,hs,t4,t5,t0,g4,g5,hua,e7,beq1,gt1,← hm,ea]
  refine ⟨by omega,by omega,by omega,by omega,by omega,by omega,by omega,by omega,by omega,by omega,brn_intro (fun h2=>?_) (fun h2=>?_)⟩
  ·have hff:flags b (i + 1) = false:=by
    rw [flags,hf]
    simpa using h2
   have h0:=flags_false hff (b.length / 6) (by omega)
   unfold dec decOk at hK
   rw [h0] at hK
   refine ⟨by omega,by omega,by omega,by simp,rfl,by omega,by omega,by omega,by omega,by omega,by simp,rfl,by simp,by simp,hexit _ _ (by simp) (Eq.mp (by kernel_rfl) hK)⟩
  ·refine ⟨by omega,by omega,by omega,by omega,by simp [el]; omega,by simp [el]; omega,hnorm (i + 1) ⟨[],msk [0,4,5] 0 33,[0]⟩ _ ⟨hi1,?_⟩ (by omega) (by kernel_rfl)⟩
   rw [flags,hf]
   simpa using h2
 ·simp only [decide_eq_false_iff_not] at h1
  have hil:i = b.length / 6:=by omega
  unfold dec decOk at hK
  rw [← hil,hf,if_pos rfl] at hK
  exact hexit _ _ (by simp) (Eq.mp (by kernel_rfl) hK)
end D6
set_option maxRecDepth 100000
namespace D6
open Go Go.AE Go.Proofs
attribute [local irreducible] loopK evCode evSpec loopB norm
theorem ok31:∀ args pres res,sUint args = some (pres,res)→SpecOK Tryd.prog G16 81 args pres res:=by
 intro args pres res h
 unfold sUint at h
 split at h
 case h_2=>cases h
 cases h
 exact mk ok0 Tryd.func81 (by kernel_rfl) (by kernel_rfl) (fun hp K hK=>f31_ev _ _ _ (hp _ (by simp)) (hp _ (by simp)) (hp _ (by simp)) (hp _ (by simp)) (hp _ (by simp)) K hK)
theorem ok29:∀ args pres res,sUint args = some (pres,res)→SpecOK Tryd.prog G16 82 args pres res:=by
 intro args pres res h
 unfold sUint at h
 split at h
 case h_2=>cases h
 cases h
 exact mk ok0 Tryd.func82 (by kernel_rfl) (by kernel_rfl) (fun hp K hK=>f29_ev _ _ _ (hp _ (by simp)) (hp _ (by simp)) (hp _ (by simp)) (hp _ (by simp)) (hp _ (by simp)) K hK)
theorem ok30:∀ args pres res,sHalf args = some (pres,res)→SpecOK Tryd.prog G16 70 args pres res:=by
 intro args pres res h
 unfold sHalf at h
 split at h
 case h_2=>cases h
 cases h
 exact mk ok0 Tryd.func70 (by kernel_rfl) (by kernel_rfl) (fun hp K hK=>f30_ev _ (hp _ (by simp)) (hp _ (by simp)) K hK)
theorem ok11:∀ args pres res,sSameB args = some (pres,res)→SpecOK Tryd.prog G16 20 args pres res:=by
 intro args pres res h
 unfold sSameB at h
 split at h
 case h_2=>cases h
 cases h
 exact mk ok0 Tryd.func20 (by kernel_rfl) (by kernel_rfl) (fun hp K hK=>f11_ev _ _ (hp _ (by simp)) (hp _ (by simp)) K hK)
theorem okE1:EOK Tryd.prog E1 G16:=addE_ok (addE_ok (addE_ok (addE_ok ok0 ok31) ok29) ok30) ok11
theorem ok23:∀ args pres res,sInt args = some (pres,res)→SpecOK Tryd.prog G16 68 args pres res:=by
 intro args pres res h
 unfold sInt at h
 split at h
 case h_2=>cases h
 cases h
 exact mk okE1 Tryd.func68 (by kernel_rfl) (by kernel_rfl) (fun hp K hK=>f23_ev _ _ _ (hp _ (by simp)) (hp _ (by simp)) (hp _ (by simp)) (hp _ (by simp)) (hp _ (by simp)) K hK)
theorem ok20:∀ args pres res,sInt args = some (pres,res)→SpecOK Tryd.prog G16 69 args pres res:=by
 intro args pres res h
 unfold sInt at h
 split at h
 case h_2=>cases h
 cases h
 exact mk okE1 Tryd.func69 (by kernel_rfl) (by kernel_rfl) (fun hp K hK=>f20_ev _ _ _ (hp _ (by simp)) (hp _ (by simp)) (hp _ (by simp)) (hp _ (by simp)) (hp _ (by simp)) K hK)
theorem okE2:EOK Tryd.prog E2 G16:=addE_ok (addE_ok okE1 ok23) ok20
theorem ok21:∀ args pres res,sAppend args = some (pres,res)→SpecOK Tryd.prog G16 72 args pres res:=by
 intro args pres res h
 unfold sAppend at h
 split at h
 case h_2=>cases h
 cases h
 exact mk ok0 Tryd.func72 (by kernel_rfl) (by kernel_rfl) (fun hp K hK=>f21_ev _ _ _ (hp _ (by simp)) (hp _ (by simp)) (hp _ (by simp)) (hp _ (by simp)) (hp _ (by simp)) K hK)
theorem ok22:∀ args pres res,sAppend args = some (pres,res)→SpecOK Tryd.prog G16 73 args pres res:=by
 intro args pres res h
 unfold sAppend at h
 split at h
 case h_2=>cases h
 cases h
 exact mk ok0 Tryd.func73 (by kernel_rfl) (by kernel_rfl) (fun hp K hK=>f22_ev _ _ _ (hp _ (by simp)) (hp _ (by simp)) (hp _ (by simp)) (hp _ (by simp)) (hp _ (by simp)) K hK)
theorem ok10:∀ args pres res,sSameT args = some (pres,res)→SpecOK Tryd.prog G16 43 args pres res:=by
 intro args pres res h
 unfold sSameT at h
 split at h
 case h_2=>cases h
 cases h
 rename_i xs ys
 exact mk ok0 Tryd.func43 (by kernel_rfl) (by kernel_rfl) (fun hp K hK=>by
  obtain ⟨L,rfl,e,hL⟩:=okT_elim (hp (okT xs) (by simp))
  obtain ⟨M,rfl,e',hM⟩:=okT_elim (hp (okT ys) (by simp))
  rw [e,e'] at hK
  have h1:=hp (((L.map cellsT).length:Int)≤big) (by simp)
  have h2:=hp (((M.map cellsT).length:Int)≤big) (by simp)
  rw [List.length_map] at h1 h2
  exact f10_ev L M h1 h2 K hK)
theorem okE3:EOK Tryd.prog E3 G16:=addE_ok (addE_ok (addE_ok okE2 ok21) ok22) ok10
theorem ok12:∀ args pres res,sEnc args = some (pres,res)→SpecOK Tryd.prog G16 55 args pres res:=by
 intro args pres res h
 unfold sEnc at h
 split at h
 case h_2=>cases h
 cases h
 rename_i xs
 exact mk okE3 Tryd.func55 (by kernel_rfl) (by kernel_rfl) (fun hp K hK=>by
  obtain ⟨L,rfl,e,hL⟩:=okT_elim (hp (okT xs) (by simp))
  rw [e] at hK
  have h1:=hp (((L.map cellsT).length:Int)≤100000000000) (by simp)
  rw [List.length_map] at h1
  exact f12_ev L hL h1 K hK)
theorem ok13:∀ args pres res,sEnc args = some (pres,res)→SpecOK Tryd.prog G16 59 args pres res:=by
 intro args pres res h
 unfold sEnc at h
 split at h
 case h_2=>cases h
 cases h
 rename_i xs
 exact mk okE3 Tryd.func59 (by kernel_rfl) (by kernel_rfl) (fun hp K hK=>by
  obtain ⟨L,rfl,e,hL⟩:=okT_elim (hp (okT xs) (by simp))
  rw [e] at hK
  have h1:=hp (((L.map cellsT).length:Int)≤100000000000) (by simp)
  rw [List.length_map] at h1
  exact f13_ev L hL h1 K hK)
theorem I16_ok:∀ f fn,I16 f = some fn→Tryd.prog.funcs[f]? = some fn∧(fn.name == "runtime.NumGoroutine") = false:=by
 intro f fn h
 unfold I16 at h
 cases h1:Nat.beq f 66 with
 | true=>rw [h1,cond_true] at h; cases h; obtain rfl:=nbeq h1; exact ⟨Tryd.func66,by kernel_rfl⟩
 | false =>
  rw [h1,cond_false] at h
  cases h2:Nat.beq f 76 with
  | true=>rw [h2,cond_true] at h; cases h; obtain rfl:=nbeq h2; exact ⟨Tryd.func76,by kernel_rfl⟩
  | false=>rw [h2,cond_false] at h; cases h
theorem ok8:∀ args pres res,sDec args = some (pres,res)→SpecOK Tryd.prog G16 31 args pres res:=by
 intro args pres res h
 unfold sDec at h
 split at h
 case h_2=>cases h
 cases h
 exact spec_ok (C:=C8) okE3 (call16_ok okE3 I16_ok 3) Tryd.func31 (by kernel_rfl) (by kernel_rfl) (fun hp=>f8_ev _ (hp _ (by simp)) _ rfl)
theorem ok9:∀ args pres res,sDec args = some (pres,res)→SpecOK Tryd.prog G16 39 args pres res:=by
 intro args pres res h
 unfold sDec at h
 split at h
 case h_2=>cases h
 cases h
 exact mk okE2 Tryd.func39 (by kernel_rfl) (by kernel_rfl) (fun hp K hK=>f9_ev _ (hp _ (by simp)) K hK)
theorem okE4:EOK Tryd.prog E4 G16:=addE_ok (addE_ok (addE_ok (addE_ok okE3 ok12) ok13) ok8) ok9
end D6
set_option maxRecDepth 100000
namespace Z19
open Go Go.AE Go.Proofs D6
attribute [local irreducible] loopK evCode evSpec loopB norm
theorem f23_in (d:List UInt8) (K:List AV→Prop):evSpec K0 Tryd.f23 [by' d] K = (K [.agg [.imm (.bytes d),.imm (.int .i64 0),.imm (.int .i64 0),.imm (.int .i64 0)]]):=by kernel_rfl
theorem f26_in (d:List UInt8) (p:Int) (e:Int) (a:Int) (K:List AV→Prop):evSpec K0 Tryd.f26 [curAV d p e a] K = (brn (e != 0) (K [.imm (.int .i64 0)]) (K [.imm (.int .i64 (IntKind.wrap .i64 ((d.length:Int) - p)))])):=by kernel_rfl
theorem f27_in (d:List UInt8) (p:Int) (e:Int) (a:Int) (w:Int) (t:Int) (K:List AV→Prop):evSpec K0 Tryd.f27 [curAV d p e a,i64 w,i64 t] K = (brn (e == 0 && w != 0) (K [.agg [.imm (.bytes d),.imm (.int .i64 p),.imm (.int .i64 w),.imm (.int .i64 t)]]) (K [.agg [.imm (.bytes d),.imm (.int .i64 p),.imm (.int .i64 e),.imm (.int .i64 a)]])):=by kernel_rfl
theorem f35_in (d:List UInt8) (p:Int) (e:Int) (a:Int) (w:Int) (t:Int) (K:List AV→Prop):evSpec K0 Tryd.f35 [curAV d p e a,i64 w,i64 t] K = (brn (e != 0 || w == 0) (K [.agg [.imm (.bytes d),.imm (.int .i64 p),.imm (.int .i64 e),.imm (.int .i64 a)]]) (K [.agg [.imm (.bytes d),.imm (.int .i64 p),.imm (.int .i64 w),.imm (.int .i64 t)]])):=by kernel_rfl
theorem f11_in (w:Bool) (K:List AV→Prop):evSpec K0 Tryd.f11 [bo w] K =
 (brn w (K [AV.imm (IV.int IntKind.i64 (8:Int))]) (K [AV.imm (IV.int IntKind.i64 (4:Int))])):=by kernel_rfl
theorem f9_in (d:List UInt8) (p:Int) (e:Int) (a:Int) (K:List AV→Prop):evSpec K0 Tryd.f9 [curAV d p e a] K = (K [.imm (.bool (decide (p≥0) && decide (p≤(d.length:Int)) && (e != 0 || a == 0) && decide ((d.length:Int)≤2000)))]):=by kernel_rfl
theorem f10_in (T:List Int) (I:List UInt8) (X:List (List IV)) (C:List UInt8) (L:List (List IV)) (S:List Bool) (U:List Bool) (K:List AV→Prop):evSpec K0 Tryd.f10 [blkAV T I X C L S U] K = (K [.imm (.bool (decide ((T.length:Int)≤200) && decide ((I.length:Int)≤200) && decide ((X.length:Int)≤200) && decide ((C.length:Int)≤600) && decide ((L.length:Int)≤200) && decide ((S.length:Int)≤200) && decide ((U.length:Int)≤200)))]):=by kernel_rfl
theorem f16_in (T:List Int) (I:List UInt8) (X:List (List IV)) (C:List UInt8) (L:List (List IV)) (S:List Bool) (U:List Bool) (v:Int) (K:List AV→Prop):evSpec K0 Tryd.f16 [blkAV T I X C L S U,i64 v] K = (K [.agg [.imm (.int .i64 v),.imm (.int IntKind.u32 (IntKind.wrap IntKind.u32 (U.length:Int))),.imm (.int IntKind.u32 (IntKind.wrap IntKind.u32 (S.length:Int))),.imm (.int IntKind.u32 (IntKind.wrap IntKind.u32 (L.length:Int))),.imm (.int IntKind.u32 (IntKind.wrap IntKind.u32 (T.length:Int))),.imm (.int IntKind.u32 (IntKind.wrap IntKind.u32 (X.length:Int))),.imm (.int IntKind.u32 (IntKind.wrap IntKind.u32 (C.length:Int)))]]):=by kernel_rfl
theorem f17_in (T:List Int) (I:List UInt8) (X:List (List IV)) (C:List UInt8) (L:List (List IV)) (S:List Bool) (U:List Bool) (v:Int) (K:List AV→Prop):evSpec K0 Tryd.f17 [blkAV T I X C L S U,i64 v] K = (K [.agg [.imm (.int .i64 v),.imm (.int IntKind.u32 (IntKind.wrap IntKind.u32 (U.length:Int))),.imm (.int IntKind.u32 (IntKind.wrap IntKind.u32 (S.length:Int))),.imm (.int IntKind.u32 (IntKind.wrap IntKind.u32 (L.length:Int))),.imm (.int IntKind.u32 (IntKind.wrap IntKind.u32 (T.length:Int))),.imm (.int IntKind.u32 (IntKind.wrap IntKind.u32 (X.length:Int))),.imm (.int IntKind.u32 (IntKind.wrap IntKind.u32 (C.length:Int)))]]):=by kernel_rfl
theorem f83_in (a:Int) (b:Int) (K:List AV→Prop):evSpec K0 Tryd.f83 [u6 a,u6 b] K = ((0:Int)≤32∧(0:Int)≤32∧(0:Int)≤32∧(0:Int)≤32∧(0:Int)≤32∧K [.imm (.int IntKind.u64 (IntKind.wrap IntKind.u64 (IntKind.wrap IntKind.u64 (IntKind.wrap IntKind.u64 (shrV IntKind.u64 a (32:Int) * shrV IntKind.u64 b (32:Int)) + shrV IntKind.u64 (IntKind.wrap IntKind.u64 (IntKind.wrap IntKind.u64 (shrV IntKind.u64 a (32:Int) * bitsV BinOp.and IntKind.u64 b (4294967295:Int)) + shrV IntKind.u64 (IntKind.wrap IntKind.u64 (bitsV BinOp.and IntKind.u64 a (4294967295:Int) * bitsV BinOp.and IntKind.u64 b (4294967295:Int))) (32:Int))) (32:Int)) + shrV IntKind.u64 (IntKind.wrap IntKind.u64 (bitsV BinOp.and IntKind.u64 (IntKind.wrap IntKind.u64 (IntKind.wrap IntKind.u64 (shrV IntKind.u64 a (32:Int) * bitsV BinOp.and IntKind.u64 b (4294967295:Int)) + shrV IntKind.u64 (IntKind.wrap IntKind.u64 (bitsV BinOp.and IntKind.u64 a (4294967295:Int) * bitsV BinOp.and IntKind.u64 b (4294967295:Int))) (32:Int))) (4294967295:Int) + IntKind.wrap IntKind.u64 (bitsV BinOp.and IntKind.u64 a (4294967295:Int) * shrV IntKind.u64 b (32:Int)))) (32:Int)))),.imm (.int
 IntKind.u64 (IntKind.wrap IntKind.u64 (a * b)))]):=by kernel_rfl
theorem f36_in (v:Int) (iu:Int) (is:Int) (l:Int) (t:Int) (ty:Int) (c:Int) (s:Int) (K:List AV→Prop):evSpec K0 Tryd.f36 [hdAV v iu is l t ty c,i64 s] K = (K [.agg [.imm (.int IntKind.u64 (IntKind.wrap IntKind.u64 (IntKind.wrap IntKind.u64 t * IntKind.wrap IntKind.u64 s))),.imm (.int IntKind.u64 (IntKind.wrap IntKind.u64 t)),.imm (.int IntKind.u64 (IntKind.wrap IntKind.u64 ((6:Int) * IntKind.wrap IntKind.u64 ty))),.imm (.int IntKind.u64 (IntKind.wrap IntKind.u64 c)),.imm (.int IntKind.u64 (IntKind.wrap IntKind.u64 (IntKind.wrap IntKind.u64 l * IntKind.wrap IntKind.u64 (IntKind.wrap IntKind.u64 s + 4)))),.imm (.int IntKind.u64 (IntKind.wrap IntKind.u64 is)),.imm (.int IntKind.u64 (IntKind.wrap IntKind.u64 iu))]]):=by kernel_rfl
theorem f74_in (a:Int) (b:Int) (m:Int) (K:List AV→Prop):evSpec K1 Tryd.f74 [u6 a,u6 b,u6 m] K = ((0:Int)≤a∧a≤4294967295∧(0:Int)≤b∧b≤4294967295∧brn ((0:Int) != 0 || decide (a * b > m)) (K [.imm (.int IntKind.u64 (0:Int)),.imm (.bool false)]) (K [.imm (.int IntKind.u64 (a * b)),.imm (.bool true)])):=by kernel_rfl
theorem f64_in (d:List UInt8) (p:Int) (e:Int) (a:Int) (n:Int) (K:List AV→Prop):evSpec K1 Tryd.f64 [curAV d p e a,i64 n] K = (brn (e != 0) (K [.agg [.imm (.bytes d),.imm (.int .i64 p),.imm (.int .i64 e),.imm (.int .i64 a)],.imm (.bool false)]) ((decide (n < 0) = false→okU (Cu.mk d p e a))∧brn (decide (n < 0) || decide (n > restU (Cu.mk d p e a))) (K [.agg [.imm (.bytes (Cu.d (failU (Cu.mk d p e a) (1:Int) (d.length:Int)))),.imm (.int .i64 (Cu.p (failU (Cu.mk d p e a) (1:Int) (d.length:Int)))),.imm (.int .i64 (Cu.e (failU (Cu.mk d p e a) (1:Int) (d.length:Int)))),.imm (.int .i64 (Cu.a (failU (Cu.mk d p e a) (1:Int) (d.length:Int))))],.imm (.bool false)]) (K [.agg [.imm (.bytes d),.imm (.int .i64 (IntKind.wrap .i64 (p + n))),.imm (.int .i64 e),.imm (.int .i64 a)],.imm (.bool true)]))):=by kernel_rfl
theorem f14_in (T:List Int) (I:List UInt8) (X:List (List IV)) (C:List UInt8) (L:List (List IV)) (S:List Bool) (U:List Bool) (T':List Int) (I':List UInt8) (X':List (List IV)) (C':List UInt8) (L':List (List IV)) (S':List Bool) (U':List Bool) (K:List AV→Prop):evSpec K1 Tryd.f14 [blkAV T I X C L S U,blkAV T' I' X' C' L' S' U'] K = ((T.length:Int)≤big'∧(T'.length:Int)≤big'∧(decide (T = T') = true→(I.length:Int)≤big)∧(decide (T = T') = true→(I'.length:Int)≤big)∧((decide (T = T') && decide (I = I')) = true→okT X)∧((decide (T = T') && decide (I = I')) = true→okT X')∧((decide (T = T') && decide (I = I')) = true→(X.length:Int)≤big)∧((decide (T = T') && decide (I = I')) = true→(X'.length:Int)≤big)∧((decide (T = T') && decide (I = I') && decide (tys X = tys X')) = true→(C.length:Int)≤big)∧((decide (T = T') && decide (I = I') && decide (tys X = tys X')) = true→(C'.length:Int)≤big)∧((decide (T = T') && decide (I = I') && decide (tys X = tys X') && decide (C = C')) = true→okL L)∧((decide (T = T') && decide (I = I') && decide (tys X = tys X') && decide (C = C')) = true→okL L')∧((decide (T
 = T') && decide (I = I') && decide (tys X = tys X') && decide (C = C')) = true→(L.length:Int)≤big')∧((decide (T = T') && decide (I = I') && decide (tys X = tys X') && decide (C = C')) = true→(L'.length:Int)≤big')∧((decide (T = T') && decide (I = I') && decide (tys X = tys X') && decide (C = C') && decide (lps L = lps L')) = true→(S.length:Int)≤big')∧((decide (T = T') && decide (I = I') && decide (tys X = tys X') && decide (C = C') && decide (lps L = lps L')) = true→(S'.length:Int)≤big')∧((decide (T = T') && decide (I = I') && decide (tys X = tys X') && decide (C = C') && decide (lps L = lps L') && decide (S = S')) = true→(U.length:Int)≤big')∧((decide (T = T') && decide (I = I') && decide (tys X = tys X') && decide (C = C') && decide (lps L = lps L') && decide (S = S')) = true→(U'.length:Int)≤big')∧K [.imm (.bool (decide (T = T') && decide (I = I') && decide (tys X = tys X') && decide (C = C') && decide (lps L = lps L') && decide (S = S') && decide (U = U')))]):=by kernel_rfl
theorem f18_in (T:List Int) (I:List UInt8) (X:List (List IV)) (C:List UInt8) (L:List (List IV)) (S:List Bool) (U:List Bool) (T':List Int) (I':List UInt8) (X':List (List IV)) (C':List UInt8) (L':List (List IV)) (S':List Bool) (U':List Bool) (K:List AV→Prop):evSpec K1 Tryd.f18 [blkAV T I X C L S U,blkAV T' I' X' C' L' S' U'] K = ((T.length:Int)≤big'∧(T'.length:Int)≤big'∧(decide (T = T') = true→(I.length:Int)≤big)∧(decide (T = T') = true→(I'.length:Int)≤big)∧((decide (T = T') && decide (I = I')) = true→okT X)∧((decide (T = T') && decide (I = I')) = true→okT X')∧((decide (T = T') && decide (I = I')) = true→(X.length:Int)≤big)∧((decide (T = T') && decide (I = I')) = true→(X'.length:Int)≤big)∧((decide (T = T') && decide (I = I') && decide (tys X = tys X')) = true→(C.length:Int)≤big)∧((decide (T = T') && decide (I = I') && decide (tys X = tys X')) = true→(C'.length:Int)≤big)∧((decide (T = T') && decide (I = I') && decide (tys X = tys X') && decide (C = C')) = true→okL L)∧((decide (T = T') && decide (I = I') && decide (tys X = tys X') && decide (C = C')) = true→okL L')∧((decide (T
 = T') && decide (I = I') && decide (tys X = tys X') && decide (C = C')) = true→(L.length:Int)≤big')∧((decide (T = T') && decide (I = I') && decide (tys X = tys X') && decide (C = C')) = true→(L'.length:Int)≤big')∧((decide (T = T') && decide (I = I') && decide (tys X = tys X') && decide (C = C') && decide (lps L = lps L')) = true→(S.length:Int)≤big')∧((decide (T = T') && decide (I = I') && decide (tys X = tys X') && decide (C = C') && decide (lps L = lps L')) = true→(S'.length:Int)≤big')∧((decide (T = T') && decide (I = I') && decide (tys X = tys X') && decide (C = C') && decide (lps L = lps L') && decide (S = S')) = true→(U.length:Int)≤big')∧((decide (T = T') && decide (I = I') && decide (tys X = tys X') && decide (C = C') && decide (lps L = lps L') && decide (S = S')) = true→(U'.length:Int)≤big')∧K [.imm (.bool (decide (T = T') && decide (I = I') && decide (tys X = tys X') && decide (C = C') && decide (lps L = lps L') && decide (S = S') && decide (U = U')))]):=by kernel_rfl
theorem f42_in (a:List Int) (b:List Int) (K:List AV→Prop):evSpec K0 Tryd.f42 [.imm (.ints IntKind.i64 a),.imm (.ints IntKind.i64 b)] K = (brn ((a.length:Int) != (b.length:Int)) (K [.imm (.bool false)]) (LoopI K0 (bodyOf Tryd.f42) (0:Nat) (St.mk (lapp [.imm (.ints IntKind.i64 a),.imm (.ints IntKind.i64 b),.dead,.dead,.imm (.bool false),.imm (.int .i64 0),.imm (.ints IntKind.i64 a),.imm (.int .i64 (a.length:Int)),.imm (.ints IntKind.i64 b),.imm (.int .i64 (b.length:Int)),.imm (.bool ((a.length:Int) != (b.length:Int)))] (dN 15)) [] (0:Nat) []) (finK K0 Tryd.f42 K))):=by kernel_rfl
theorem f46_in (a:List Int) (b:List Int) (K:List AV→Prop):evSpec K0 Tryd.f46 [.imm (.ints IntKind.i64 a),.imm (.ints IntKind.i64 b)] K = (brn ((a.length:Int) != (b.length:Int)) (K [.imm (.bool false)]) (LoopI K0 (bodyOf Tryd.f46) (0:Nat) (St.mk (lapp [.imm (.ints IntKind.i64 a),.imm (.ints IntKind.i64 b),.dead,.dead,.imm (.bool false),.dead,.imm (.ints IntKind.i64 a),.imm (.int .i64 (a.length:Int)),.imm (.ints IntKind.i64 b),.imm (.int .i64 (b.length:Int)),.imm (.bool ((a.length:Int) != (b.length:Int))),.imm (.ints IntKind.i64 a),.imm (.int .i64 (a.length:Int)),.imm (.int .i64 0)] (dN 12)) [] (0:Nat) []) (finK K0 Tryd.f46 K))):=by kernel_rfl
theorem f47_in (a:List UInt8) (b:List UInt8) (K:List AV→Prop):evSpec K0 Tryd.f47 [by' a,by' b] K = (brn ((a.length:Int) != (b.length:Int)) (K [.imm (.bool false)]) (LoopI K0 (bodyOf Tryd.f47) (0:Nat) (St.mk (lapp [.imm (.bytes a),.imm (.bytes b),.dead,.dead,.imm (.bool false),.dead,.imm (.bytes a),.imm (.int .i64 (a.length:Int)),.imm (.bytes b),.imm (.int .i64 (b.length:Int)),.imm (.bool ((a.length:Int) != (b.length:Int))),.imm (.bytes a),.imm (.int .i64 (a.length:Int)),.imm (.int .i64 0)] (dN 12)) [] (0:Nat) []) (finK K0 Tryd.f47 K))):=by kernel_rfl
theorem f48_in (a:List (List IV)) (b:List (List IV)) (K:List AV→Prop):evSpec K0 Tryd.f48 [tl' a,tl' b] K = (brn ((a.length:Int) != (b.length:Int)) (K [.imm (.bool false)]) (LoopI K0 (bodyOf Tryd.f48) (0:Nat) (St.mk (lapp [.imm (.sl (3:Nat) a),.imm (.sl (3:Nat) b),.dead,.dead,.imm (.bool false),.dead,.imm (.sl (3:Nat) a),.imm (.int .i64 (a.length:Int)),.imm (.sl (3:Nat) b),.imm (.int .i64 (b.length:Int)),.imm (.bool ((a.length:Int) != (b.length:Int))),.imm (.sl (3:Nat) a),.imm (.int .i64 (a.length:Int)),.imm (.int .i64 0)] (dN 12)) [] (0:Nat) []) (finK K0 Tryd.f48 K))):=by kernel_rfl
theorem f44_in (a:List (List IV)) (b:List (List IV)) (K:List AV→Prop):evSpec K0 Tryd.f44 [.imm (.sl (2:Nat) a),.imm (.sl (2:Nat) b)] K = (brn ((a.length:Int) != (b.length:Int)) (K [.imm (.bool false)]) (LoopI K0 (bodyOf Tryd.f44) (0:Nat) (St.mk (lapp [.imm (.sl (2:Nat) a),.imm (.sl (2:Nat) b),.dead,.dead,.imm (.bool false),.imm (.int .i64 0),.imm (.sl (2:Nat) a),.imm (.int .i64 (a.length:Int)),.imm (.sl (2:Nat) b),.imm (.int .i64 (b.length:Int)),.imm (.bool ((a.length:Int) != (b.length:Int)))] (dN 15)) [] (0:Nat) []) (finK K0 Tryd.f44 K))):=by kernel_rfl
theorem f49_in (a:List (List IV)) (b:List (List IV)) (K:List AV→Prop):evSpec K0 Tryd.f49 [.imm (.sl (2:Nat) a),.imm (.sl (2:Nat) b)] K = (brn ((a.length:Int) != (b.length:Int)) (K [.imm (.bool false)]) (LoopI K0 (bodyOf Tryd.f49) (0:Nat) (St.mk (lapp [.imm (.sl (2:Nat) a),.imm (.sl (2:Nat) b),.dead,.dead,.imm (.bool false),.dead,.imm (.sl (2:Nat) a),.imm (.int .i64 (a.length:Int)),.imm (.sl (2:Nat) b),.imm (.int .i64 (b.length:Int)),.imm (.bool ((a.length:Int) != (b.length:Int))),.imm (.sl (2:Nat) a),.imm (.int .i64 (a.length:Int)),.imm (.int .i64 0)] (dN 12)) [] (0:Nat) []) (finK K0 Tryd.f49 K))):=by kernel_rfl
theorem f45_in (a:List Bool) (b:List Bool) (K:List AV→Prop):evSpec K0 Tryd.f45 [.imm (.bools a),.imm (.bools b)] K = (brn ((a.length:Int) != (b.length:Int)) (K [.imm (.bool false)]) (LoopI K0 (bodyOf Tryd.f45) (0:Nat) (St.mk (lapp [.imm (.bools a),.imm (.bools b),.dead,.dead,.imm (.bool false),.imm (.int .i64 0),.imm (.bools a),.imm (.int .i64 (a.length:Int)),.imm (.bools b),.imm (.int .i64 (b.length:Int)),.imm (.bool ((a.length:Int) != (b.length:Int)))] (dN 15)) [] (0:Nat) []) (finK K0 Tryd.f45 K))):=by kernel_rfl
theorem f50_in (a:List Bool) (b:List Bool) (K:List AV→Prop):evSpec K0 Tryd.f50 [.imm (.bools a),.imm (.bools b)] K = (brn ((a.length:Int) != (b.length:Int)) (K [.imm (.bool false)]) (LoopI K0 (bodyOf Tryd.f50) (0:Nat) (St.mk (lapp [.imm (.bools a),.imm (.bools b),.dead,.dead,.imm (.bool false),.dead,.imm (.bools a),.imm (.int .i64 (a.length:Int)),.imm (.bools b),.imm (.int .i64 (b.length:Int)),.imm (.bool ((a.length:Int) != (b.length:Int))),.imm (.bools a),.imm (.int .i64 (a.length:Int)),.imm (.int .i64 0)] (dN 12)) [] (0:Nat) []) (finK K0 Tryd.f50 K))):=by kernel_rfl
theorem f33_in (b:List UInt8) (s:Int) (K:List AV→Prop):evSpec K0 Tryd.f33 [by' b,i64 s] K = (LoopI K0 (bodyOf Tryd.f33) (0:Nat) (St.mk (lapp [.imm (.bytes b),.imm (.int .i64 s),.dead,.dead,.full (IV.ints IntKind.i64 []),.full (IV.ints IntKind.i64 []),.imm (.int .i64 0)] (dN 23)) [] (0:Nat) []) (finK K0 Tryd.f33 K)):=by kernel_rfl
theorem f38_in (b:List UInt8) (s:Int) (K:List AV→Prop):evSpec K0 Tryd.f38 [by' b,i64 s] K = (LoopI K0 (bodyOf Tryd.f38) (0:Nat) (St.mk (lapp [.imm (.bytes b),.imm (.int .i64 s),.dead,.dead,.full (IV.ints IntKind.i64 []),.full (IV.ints IntKind.i64 []),.imm (.int .i64 0)] (dN 29)) [] (0:Nat) []) (finK K0 Tryd.f38 K)):=by kernel_rfl
theorem f34_in (b:List UInt8) (s:Int) (K:List AV→Prop):evSpec K0 Tryd.f34 [by' b,i64 s] K = (LoopI K0 (bodyOf Tryd.f34) (0:Nat) (St.mk (lapp [.imm (.bytes b),.imm (.int .i64 s),.dead,.dead,.full (IV.sl (2:Nat) []),.full (IV.sl (2:Nat) []),.imm (.int .i64 0)] (dN 38)) [] (0:Nat) []) (finK K0 Tryd.f34 K)):=by kernel_rfl
theorem f40_in (b:List UInt8) (s:Int) (K:List AV→Prop):evSpec K0 Tryd.f40 [by' b,i64 s] K = (LoopI K0 (bodyOf Tryd.f40) (0:Nat) (St.mk (lapp [.imm (.bytes b),.imm (.int .i64 s),.dead,.dead,.full (IV.sl (2:Nat) []),.full (IV.sl (2:Nat) []),.imm (.int .i64 (IntKind.wrap .i64 (s + 4))),.imm (.int .i64 0)] (lapp (dN 4) (lapp [.imm (.int .i64 s),.imm (.int .i64 (IntKind.wrap .i64 (s + 4)))] (dN 35)))) [] (0:Nat) []) (finK K0 Tryd.f40 K)):=by kernel_rfl
theorem f32_in (b:List UInt8) (K:List AV→Prop):evSpec K0 Tryd.f32 [by' b] K = (LoopI K0 (bodyOf Tryd.f32) (0:Nat) (St.mk (lapp [.imm (.bytes b),.dead,.full (IV.bools []),.imm (.bool false),.full (IV.bools []),.dead,.dead,.imm (.bytes b),.imm (.int .i64 (b.length:Int)),.imm (.int .i64 0)] (dN 14)) [] (0:Nat) []) (finK K0 Tryd.f32 K)):=by kernel_rfl
theorem f41_in (b:List UInt8) (K:List AV→Prop):evSpec K0 Tryd.f41 [by' b] K = (LoopI K0 (bodyOf Tryd.f41) (0:Nat) (St.mk (lapp [.imm (.bytes b),.dead,.full (IV.bools []),.imm (.bool false),.full (IV.bools []),.imm (.int .i64 0)] (dN 20)) [] (0:Nat) []) (finK K0 Tryd.f41 K)):=by kernel_rfl
theorem f54_in (T:List Int) (s:Int) (K:List AV→Prop):evSpec K0 Tryd.f54 [.imm (.ints IntKind.i64 T),i64 s] K = ((0:Int)≤0∧(0:Int)≤IntKind.wrap .i64 ((T.length:Int) * s)∧(↑(1:Nat):Int) * IntKind.wrap .i64 ((T.length:Int) * s)≤140737488355328∧IntKind.wrap .i64 ((T.length:Int) * s)≤140737488355328∧LoopI K0 (bodyOf Tryd.f54) (0:Nat) (St.mk (lapp [.imm (.ints IntKind.i64 T),.imm (.int .i64 s),.dead,.dead,.full (IV.bytes []),AV.row (0:Nat) (0:Nat),.dead,.dead,.imm (.ints IntKind.i64 T),.imm (.int .i64 (T.length:Int)),.imm (.int .i64 s),.imm (.int .i64 (IntKind.wrap .i64 ((T.length:Int) * s))),AV.row (0:Nat) (0:Nat),.imm (.ints IntKind.i64 T),.imm (.int .i64 (T.length:Int)),.imm (.int .i64 0)] (dN 11)) [(0,Ob.mk true 0 (AObj.row (IV.bytes (List.replicate (0:Int).toNat (0:UInt8)))))] (1:Nat) []) (finK K0 Tryd.f54 K)):=by kernel_rfl
theorem f58_in (T:List Int) (s:Int) (K:List AV→Prop):evSpec K0 Tryd.f58 [.imm (.ints IntKind.i64 T),i64 s] K = (LoopI K0 (bodyOf Tryd.f58) (0:Nat) (St.mk (lapp [.imm (.ints IntKind.i64 T),.imm (.int .i64 s),.dead,.dead,.full (IV.bytes []),.full (IV.bytes []),.imm (.int .i64 0)] (dN 15)) [] (0:Nat) []) (finK K0 Tryd.f58 K)):=by kernel_rfl
theorem f56_in (xs:List (List IV)) (s:Int) (K:List AV→Prop):evSpec K0 Tryd.f56 [.imm (.sl (2:Nat) xs),i64 s] K = (LoopI K0 (bodyOf Tryd.f56) (0:Nat) (St.mk (lapp [.imm (.sl (2:Nat) xs),.imm (.int .i64 s),.dead,.dead,.full (IV.bytes []),.full (IV.bytes []),.dead,.dead,.imm (.sl (2:Nat) xs),.imm (.int .i64 (xs.length:Int)),.imm (.int .i64 0)] (dN 17)) [] (0:Nat) []) (finK K0 Tryd.f56 K)):=by kernel_rfl
theorem f60_in (xs:List (List IV)) (s:Int) (K:List AV→Prop):evSpec K0 Tryd.f60 [.imm (.sl (2:Nat) xs),i64 s] K = (LoopI K0 (bodyOf Tryd.f60) (0:Nat) (St.mk (lapp [.imm (.sl (2:Nat) xs),.imm (.int .i64 s),.dead,.dead,.full (IV.bytes []),.full (IV.bytes []),.imm (.int .i64 0)] (dN 25)) [] (0:Nat) []) (finK K0 Tryd.f60 K)):=by kernel_rfl
theorem f57_in (l:List Bool) (K:List AV→Prop):evSpec K0 Tryd.f57 [.imm (.bools l)] K = ((0:Int)≤(l.length:Int)∧(l.length:Int)≤(l.length:Int)∧(↑(1:Nat):Int) * (l.length:Int)≤140737488355328∧(l.length:Int)≤140737488355328∧LoopI K0 (bodyOf Tryd.f57) (0:Nat) (St.mk (lapp [.imm (.bools l),.dead,.full (IV.bytes []),AV.row (0:Nat) (0:Nat),.dead,.dead,.imm (.bools l),.imm (.int .i64 (l.length:Int)),AV.row (0:Nat) (0:Nat),.imm (.bools l),.imm (.int .i64 (l.length:Int)),.imm (.int .i64 0)] (dN 10)) [(0,Ob.mk true 0 (AObj.row (IV.bytes (List.replicate (l.length:Int).toNat (0:UInt8)))))] (1:Nat) []) (finK K0 Tryd.f57 K)):=by kernel_rfl
theorem f61_in (l:List Bool) (K:List AV→Prop):evSpec K0 Tryd.f61 [.imm (.bools l)] K = (LoopI K0 (bodyOf Tryd.f61) (0:Nat) (St.mk (lapp [.imm (.bools l),.dead,.full (IV.bytes []),.full (IV.bytes []),.imm (.int .i64 0)] (dN 17)) [] (0:Nat) []) (finK K0 Tryd.f61 K)):=by kernel_rfl
theorem f52_in (T:List Int) (n:Int) (K:List AV→Prop):evSpec K1 Tryd.f52 [.imm (.ints IntKind.i64 T),i64 n] K = (LoopI K1 (bodyOf Tryd.f52) (0:Nat) (St.mk (lapp [.imm (.ints IntKind.i64 T),.imm (.int .i64 n),.dead,.dead,.imm (.bool false),.imm (.int .i64 0)] (dN 13)) [] (0:Nat) []) (finK K1 Tryd.f52 K)):=by kernel_rfl
theorem f37_in (d:List UInt8) (p:Int) (e:Int) (a:Int) (n:Int) (K:List AV→Prop):evSpec K1 Tryd.f37 [curAV d p e a,i64 n] K = (brn (e != 0) (K [AV.new (IV.bytes []),.agg [.imm (.bytes d),.imm (.int .i64 p),.imm (.int .i64 e),.imm (.int .i64 a)]]) (brn (decide (n < 0) || decide (n > IntKind.wrap .i64 ((d.length:Int) - p))) (K [AV.new (IV.bytes []),.agg [.imm (.bytes (Cu.d (failU (Cu.mk d p e a) (1:Int) (d.length:Int)))),.imm (.int .i64 (Cu.p (failU (Cu.mk d p e a) (1:Int) (d.length:Int)))),.imm (.int .i64 (Cu.e (failU (Cu.mk d p e a) (1:Int) (d.length:Int)))),.imm (.int .i64 (Cu.a (failU (Cu.mk d p e a) (1:Int) (d.length:Int))))]]) (LoopI K1 (bodyOf Tryd.f37) (0:Nat) (St.mk (lapp [.agg [.imm (.bytes d),.imm (.int .i64 p),.imm (.int .i64 e),.imm (.int .i64 a)],.imm (.int .i64 n),.ptr 0 0,.dead,.full (IV.bytes []),.ptr 1 0,.full (IV.bytes []),.imm (.int .i64 0),.ptr 0 2,.imm (.int .i64 e),.imm (.bool (e != 0)),.dead,.imm (.int .i64 n),.imm (.bool (decide (n < 0))),.imm (.bool (decide (n < 0))),.opt [((14:Nat),false)] (.imm (.int .i64 n)),.opt [((14:Nat),false)] (.ptr 0 0),.opt [((14:Nat),false)] (.imm (.bytes d)),
 .opt [((14:Nat),false)] (.imm (.int .i64 (d.length:Int))),.opt [((14:Nat),false)] (.ptr 0 1),.opt [((14:Nat),false)] (.imm (.int .i64 p)),.opt [((14:Nat),false)] (.imm (.int .i64 (IntKind.wrap .i64 ((d.length:Int) - p)))),.opt [((14:Nat),false)] (.imm (.bool (decide (n > IntKind.wrap .i64 ((d.length:Int) - p))))),.imm (.bool (decide (n < 0) || decide (n > IntKind.wrap .i64 ((d.length:Int) - p))))] (dN 28)) [(0,Ob.mk true 0 (AObj.cells [.imm (.bytes d),.imm (.int .i64 p),.imm (.int .i64 e),.imm (.int .i64 a)])),(1,Ob.mk true 0 (AObj.cells [.imm (.val (Value.slice none (0:Nat) (0:Nat))),.imm (.int .i64 0),.imm (.int .i64 0),.imm (.int .i64 0)]))] (2:Nat) []) (finK K1 Tryd.f37 K)))):=by kernel_rfl
theorem f24_in (v:Int) (iu:Int) (is:Int) (l:Int) (t:Int) (ty:Int) (c:Int) (s:Int) (K:List AV→Prop):evSpec K1u Tryd.f24 [hdAV v iu is l t ty c,i64 s] K = (okH (Hd.mk v iu is l t ty c)∧sz48 s∧K [.imm (.int IntKind.u64 (IntKind.wrap IntKind.u64 (IntKind.wrap IntKind.u64 (IntKind.wrap IntKind.u64 (IntKind.wrap IntKind.u64 (IntKind.wrap IntKind.u64 (IntKind.wrap IntKind.u64 (IntKind.wrap IntKind.u64 ((0:Int) + l0 (Hd.mk v iu is l t ty c) s) + l1 (Hd.mk v iu is l t ty c)) + l2 (Hd.mk v iu is l t ty c)) + l3 (Hd.mk v iu is l t ty c)) + l4 (Hd.mk v iu is l t ty c) s) + l5 (Hd.mk v iu is l t ty c)) + l6 (Hd.mk v iu is l t ty c))))]):=by kernel_rfl
theorem f65_in (v:Int) (iu:Int) (is:Int) (l:Int) (t:Int) (ty:Int) (c:Int) (s:Int) (K:List AV→Prop):evSpec K1u Tryd.f65 [hdAV v iu is l t ty c,i64 s] K = (K [.agg [.imm (.int IntKind.u64 (IntKind.wrap IntKind.u64 (IntKind.wrap IntKind.u64 t * IntKind.wrap IntKind.u64 s))),.imm (.int IntKind.u64 (IntKind.wrap IntKind.u64 (IntKind.wrap IntKind.u64 t * 1))),.imm (.int IntKind.u64 (IntKind.wrap IntKind.u64 (IntKind.wrap IntKind.u64 ty * 6))),.imm (.int IntKind.u64 (IntKind.wrap IntKind.u64 (IntKind.wrap IntKind.u64 c * 1))),.imm (.int IntKind.u64 (IntKind.wrap IntKind.u64 (IntKind.wrap IntKind.u64 l * IntKind.wrap IntKind.u64 (IntKind.wrap IntKind.u64 s + 4)))),.imm (.int IntKind.u64 (IntKind.wrap IntKind.u64 (IntKind.wrap IntKind.u64 is * 1))),.imm (.int IntKind.u64 (IntKind.wrap IntKind.u64 (IntKind.wrap IntKind.u64 iu * 1)))]]):=by kernel_rfl
theorem f25_in (v:Int) (iu:Int) (is:Int) (l:Int) (t:Int) (ty:Int) (c:Int) (s:Int) (m:Int) (K:List AV→Prop):evSpec K2u Tryd.f25 [hdAV v iu is l t ty c,i64 s,u6 m] K = (let R1:Prop:=((0:Int)≤IntKind.wrap IntKind.u64 t∧IntKind.wrap IntKind.u64 t≤4294967295∧(0:Int)≤1∧(1:Int)≤4294967295∧(0:Int)≤m∧m≤18446744073709551615∧(0:Int)≤addU (0:Int) (mulU (IntKind.wrap IntKind.u64 t) (IntKind.wrap IntKind.u64 s) m) m∧addU (0:Int) (mulU (IntKind.wrap IntKind.u64 t) (IntKind.wrap IntKind.u64 s) m) m≤18446744073709551615∧(0:Int)≤mulU (IntKind.wrap IntKind.u64 t) (1:Int) m∧mulU (IntKind.wrap IntKind.u64 t) (1:Int) m≤18446744073709551615∧(0:Int)≤m∧m≤18446744073709551615∧brn (!decide (addU (0:Int) (mulU (IntKind.wrap IntKind.u64 t) (IntKind.wrap IntKind.u64 s) m) m + mulU (IntKind.wrap IntKind.u64 t) (1:Int) m≤m) || !decide (IntKind.wrap IntKind.u64 t * 1≤m)) (K [.imm (.int IntKind.u64 (0:Int)),.imm (.bool false)]) ((0:Int)≤IntKind.wrap IntKind.u64 ty∧IntKind.wrap IntKind.u64 ty≤4294967295∧(0:Int)≤6∧(6:Int)≤4294967295∧(0:Int)≤m∧m≤18446744073709551615∧(0:Int) ≤
 addU (addU (0:Int) (mulU (IntKind.wrap IntKind.u64 t) (IntKind.wrap IntKind.u64 s) m) m) (mulU (IntKind.wrap IntKind.u64 t) (1:Int) m) m∧addU (addU (0:Int) (mulU (IntKind.wrap IntKind.u64 t) (IntKind.wrap IntKind.u64 s) m) m) (mulU (IntKind.wrap IntKind.u64 t) (1:Int) m) m≤18446744073709551615∧(0:Int)≤mulU (IntKind.wrap IntKind.u64 ty) (6:Int) m∧mulU (IntKind.wrap IntKind.u64 ty) (6:Int) m≤18446744073709551615∧(0:Int)≤m∧m≤18446744073709551615∧brn (!decide (addU (addU (0:Int) (mulU (IntKind.wrap IntKind.u64 t) (IntKind.wrap IntKind.u64 s) m) m) (mulU (IntKind.wrap IntKind.u64 t) (1:Int) m) m + mulU (IntKind.wrap IntKind.u64 ty) (6:Int) m≤m) || !decide (IntKind.wrap IntKind.u64 ty * 6≤m)) (K [.imm (.int IntKind.u64 (0:Int)),.imm (.bool false)]) ((0:Int)≤IntKind.wrap IntKind.u64 c∧IntKind.wrap IntKind.u64 c≤4294967295∧(0:Int)≤1∧(1:Int)≤4294967295∧(0:Int)≤m∧m≤18446744073709551615∧(0:Int)≤addU (addU (addU (0:Int) (mulU (IntKind.wrap IntKind.u64 t) (IntKind.wrap IntKind.u64 s) m) m) (mulU (IntKind.wrap IntKind.u64 t) (1:Int) m) m) (mulU (IntKind.wrap IntKind.u64 ty) (6:Int) m) m∧addU (addU (addU
 (0:Int) (mulU (IntKind.wrap IntKind.u64 t) (IntKind.wrap IntKind.u64 s) m) m) (mulU (IntKind.wrap IntKind.u64 t) (1:Int) m) m) (mulU (IntKind.wrap IntKind.u64 ty) (6:Int) m) m≤18446744073709551615∧(0:Int)≤mulU (IntKind.wrap IntKind.u64 c) (1:Int) m∧mulU (IntKind.wrap IntKind.u64 c) (1:Int) m≤18446744073709551615∧(0:Int)≤m∧m≤18446744073709551615∧brn (!decide (addU (addU (addU (0:Int) (mulU (IntKind.wrap IntKind.u64 t) (IntKind.wrap IntKind.u64 s) m) m) (mulU (IntKind.wrap IntKind.u64 t) (1:Int) m) m) (mulU (IntKind.wrap IntKind.u64 ty) (6:Int) m) m + mulU (IntKind.wrap IntKind.u64 c) (1:Int) m≤m) || !decide (IntKind.wrap IntKind.u64 c * 1≤m)) (K [.imm (.int IntKind.u64 (0:Int)),.imm (.bool false)]) ((0:Int)≤IntKind.wrap IntKind.u64 l∧IntKind.wrap IntKind.u64 l≤4294967295∧(0:Int)≤IntKind.wrap IntKind.u64 (IntKind.wrap IntKind.u64 s + 4)∧IntKind.wrap IntKind.u64 (IntKind.wrap IntKind.u64 s + 4)≤4294967295∧(0:Int)≤m∧m≤18446744073709551615∧(0:Int)≤addU (addU (addU (addU (0:Int) (mulU (IntKind.wrap IntKind.u64 t) (IntKind.wrap IntKind.u64 s) m) m) (mulU (IntKind.wrap IntKind.u64 t) (1:Int) m) m) (mulU
 (IntKind.wrap IntKind.u64 ty) (6:Int) m) m) (mulU (IntKind.wrap IntKind.u64 c) (1:Int) m) m∧addU (addU (addU (addU (0:Int) (mulU (IntKind.wrap IntKind.u64 t) (IntKind.wrap IntKind.u64 s) m) m) (mulU (IntKind.wrap IntKind.u64 t) (1:Int) m) m) (mulU (IntKind.wrap IntKind.u64 ty) (6:Int) m) m) (mulU (IntKind.wrap IntKind.u64 c) (1:Int) m) m≤18446744073709551615∧(0:Int)≤mulU (IntKind.wrap IntKind.u64 l) (IntKind.wrap IntKind.u64 (IntKind.wrap IntKind.u64 s + 4)) m∧mulU (IntKind.wrap IntKind.u64 l) (IntKind.wrap IntKind.u64 (IntKind.wrap IntKind.u64 s + 4)) m≤18446744073709551615∧(0:Int)≤m∧m≤18446744073709551615∧brn (!decide (addU (addU (addU (addU (0:Int) (mulU (IntKind.wrap IntKind.u64 t) (IntKind.wrap IntKind.u64 s) m) m) (mulU (IntKind.wrap IntKind.u64 t) (1:Int) m) m) (mulU (IntKind.wrap IntKind.u64 ty) (6:Int) m) m) (mulU (IntKind.wrap IntKind.u64 c) (1:Int) m) m + mulU (IntKind.wrap IntKind.u64 l) (IntKind.wrap IntKind.u64 (IntKind.wrap IntKind.u64 s + 4)) m≤m) || !decide (IntKind.wrap IntKind.u64 l * IntKind.wrap IntKind.u64 (IntKind.wrap IntKind.u64 s + 4)≤m)) (K [.imm (.int IntKind.u64 (0:Int)),.imm (.bool false)]) ((0:Int)
 ≤ IntKind.wrap IntKind.u64 is∧IntKind.wrap IntKind.u64 is≤4294967295∧(0:Int)≤1∧(1:Int)≤4294967295∧(0:Int)≤m∧m≤18446744073709551615∧(0:Int)≤addU (addU (addU (addU (addU (0:Int) (mulU (IntKind.wrap IntKind.u64 t) (IntKind.wrap IntKind.u64 s) m) m) (mulU (IntKind.wrap IntKind.u64 t) (1:Int) m) m) (mulU (IntKind.wrap IntKind.u64 ty) (6:Int) m) m) (mulU (IntKind.wrap IntKind.u64 c) (1:Int) m) m) (mulU (IntKind.wrap IntKind.u64 l) (IntKind.wrap IntKind.u64 (IntKind.wrap IntKind.u64 s + 4)) m) m∧addU (addU (addU (addU (addU (0:Int) (mulU (IntKind.wrap IntKind.u64 t) (IntKind.wrap IntKind.u64 s) m) m) (mulU (IntKind.wrap IntKind.u64 t) (1:Int) m) m) (mulU (IntKind.wrap IntKind.u64 ty) (6:Int) m) m) (mulU (IntKind.wrap IntKind.u64 c) (1:Int) m) m) (mulU (IntKind.wrap IntKind.u64 l) (IntKind.wrap IntKind.u64 (IntKind.wrap IntKind.u64 s + 4)) m) m≤18446744073709551615∧(0:Int)≤mulU (IntKind.wrap IntKind.u64 is) (1:Int) m∧mulU (IntKind.wrap IntKind.u64 is) (1:Int) m≤18446744073709551615∧(0:Int)≤m∧m≤18446744073709551615∧brn (!decide (addU (addU (addU (addU (addU (0:Int) (mulU (IntKind.wrap IntKind.u64 t) (IntKind.wrap
 IntKind.u64 s) m) m) (mulU (IntKind.wrap IntKind.u64 t) (1:Int) m) m) (mulU (IntKind.wrap IntKind.u64 ty) (6:Int) m) m) (mulU (IntKind.wrap IntKind.u64 c) (1:Int) m) m) (mulU (IntKind.wrap IntKind.u64 l) (IntKind.wrap IntKind.u64 (IntKind.wrap IntKind.u64 s + 4)) m) m + mulU (IntKind.wrap IntKind.u64 is) (1:Int) m≤m) || !decide (IntKind.wrap IntKind.u64 is * 1≤m)) (K [.imm (.int IntKind.u64 (0:Int)),.imm (.bool false)]) ((0:Int)≤IntKind.wrap IntKind.u64 iu∧IntKind.wrap IntKind.u64 iu≤4294967295∧(0:Int)≤1∧(1:Int)≤4294967295∧(0:Int)≤m∧m≤18446744073709551615∧(0:Int)≤addU (addU (addU (addU (addU (addU (0:Int) (mulU (IntKind.wrap IntKind.u64 t) (IntKind.wrap IntKind.u64 s) m) m) (mulU (IntKind.wrap IntKind.u64 t) (1:Int) m) m) (mulU (IntKind.wrap IntKind.u64 ty) (6:Int) m) m) (mulU (IntKind.wrap IntKind.u64 c) (1:Int) m) m) (mulU (IntKind.wrap IntKind.u64 l) (IntKind.wrap IntKind.u64 (IntKind.wrap IntKind.u64 s + 4)) m) m) (mulU (IntKind.wrap IntKind.u64 is) (1:Int) m) m∧addU (addU (addU (addU (addU (addU (0:Int) (mulU (IntKind.wrap IntKind.u64 t) (IntKind.wrap IntKind.u64 s) m) m) (mulU (IntKind.wrap IntKind.u64 t) (1 :
 Int) m) m) (mulU (IntKind.wrap IntKind.u64 ty) (6:Int) m) m) (mulU (IntKind.wrap IntKind.u64 c) (1:Int) m) m) (mulU (IntKind.wrap IntKind.u64 l) (IntKind.wrap IntKind.u64 (IntKind.wrap IntKind.u64 s + 4)) m) m) (mulU (IntKind.wrap IntKind.u64 is) (1:Int) m) m≤18446744073709551615∧(0:Int)≤mulU (IntKind.wrap IntKind.u64 iu) (1:Int) m∧mulU (IntKind.wrap IntKind.u64 iu) (1:Int) m≤18446744073709551615∧(0:Int)≤m∧m≤18446744073709551615∧brn (!decide (addU (addU (addU (addU (addU (addU (0:Int) (mulU (IntKind.wrap IntKind.u64 t) (IntKind.wrap IntKind.u64 s) m) m) (mulU (IntKind.wrap IntKind.u64 t) (1:Int) m) m) (mulU (IntKind.wrap IntKind.u64 ty) (6:Int) m) m) (mulU (IntKind.wrap IntKind.u64 c) (1:Int) m) m) (mulU (IntKind.wrap IntKind.u64 l) (IntKind.wrap IntKind.u64 (IntKind.wrap IntKind.u64 s + 4)) m) m) (mulU (IntKind.wrap IntKind.u64 is) (1:Int) m) m + mulU (IntKind.wrap IntKind.u64 iu) (1:Int) m≤m) || !decide (IntKind.wrap IntKind.u64 iu * 1≤m)) (K [.imm (.int IntKind.u64 (0:Int)),.imm (.bool false)]) (brn (!decide (addU (addU (addU (addU (addU (addU (0:Int) (mulU (IntKind.wrap IntKind.u64 t) (IntKind.wrap IntKind.u64 s) m) m) (mulU
 (IntKind.wrap IntKind.u64 t) (1:Int) m) m) (mulU (IntKind.wrap IntKind.u64 ty) (6:Int) m) m) (mulU (IntKind.wrap IntKind.u64 c) (1:Int) m) m) (mulU (IntKind.wrap IntKind.u64 l) (IntKind.wrap IntKind.u64 (IntKind.wrap IntKind.u64 s + 4)) m) m) (mulU (IntKind.wrap IntKind.u64 is) (1:Int) m) m + mulU (IntKind.wrap IntKind.u64 iu) (1:Int) m≤m)) (K [.imm (.int IntKind.u64 (0:Int)),.imm (.bool false)]) (K [.imm (.int IntKind.u64 (addU (addU (addU (addU (addU (addU (addU (0:Int) (mulU (IntKind.wrap IntKind.u64 t) (IntKind.wrap IntKind.u64 s) m) m) (mulU (IntKind.wrap IntKind.u64 t) (1:Int) m) m) (mulU (IntKind.wrap IntKind.u64 ty) (6:Int) m) m) (mulU (IntKind.wrap IntKind.u64 c) (1:Int) m) m) (mulU (IntKind.wrap IntKind.u64 l) (IntKind.wrap IntKind.u64 (IntKind.wrap IntKind.u64 s + 4)) m) m) (mulU (IntKind.wrap IntKind.u64 is) (1:Int) m) m) (mulU (IntKind.wrap IntKind.u64 iu) (1:Int) m) m)),.imm (.bool true)])))))))); ((0:Int)≤IntKind.wrap IntKind.u64 t∧IntKind.wrap IntKind.u64 t≤4294967295∧(0:Int)≤IntKind.wrap IntKind.u64 s∧IntKind.wrap IntKind.u64 s≤4294967295∧(0:Int)≤m∧m≤18446744073709551615∧(0:Int)≤0∧(0:Int) ≤
 18446744073709551615∧(0:Int)≤mulU (IntKind.wrap IntKind.u64 t) (IntKind.wrap IntKind.u64 s) m∧mulU (IntKind.wrap IntKind.u64 t) (IntKind.wrap IntKind.u64 s) m≤18446744073709551615∧(0:Int)≤m∧m≤18446744073709551615∧brn (!decide ((0:Int) + mulU (IntKind.wrap IntKind.u64 t) (IntKind.wrap IntKind.u64 s) m≤m) || !decide (IntKind.wrap IntKind.u64 t * IntKind.wrap IntKind.u64 s≤m)) (K [.imm (.int IntKind.u64 (0:Int)),.imm (.bool false)]) R1)∧(0:Int)≤IntKind.wrap IntKind.u64 t∧IntKind.wrap IntKind.u64 t≤4294967295∧(0:Int)≤IntKind.wrap IntKind.u64 s∧IntKind.wrap IntKind.u64 s≤4294967295∧(0:Int)≤m∧m≤18446744073709551615∧(0:Int)≤0∧(0:Int)≤18446744073709551615∧(0:Int)≤mulU (IntKind.wrap IntKind.u64 t) (IntKind.wrap IntKind.u64 s) m∧mulU (IntKind.wrap IntKind.u64 t) (IntKind.wrap IntKind.u64 s) m≤18446744073709551615∧(0:Int)≤m∧m≤18446744073709551615∧brn (!decide ((0:Int) + mulU (IntKind.wrap IntKind.u64 t) (IntKind.wrap IntKind.u64 s) m≤m) || !decide (IntKind.wrap IntKind.u64 t * IntKind.wrap IntKind.u64 s≤m)) (K [.imm (.int IntKind.u64 (0:Int)),.imm (.bool false)]) R1):=by kernel_rfl
theorem f29_in (v:Int) (iu:Int) (is:Int) (l:Int) (t:Int) (ty:Int) (c:Int) (s:Int) (K:List AV→Prop):evSpec K2u Tryd.f29 [hdAV v iu is l t ty c,i64 s] K = (okH (Hd.mk v iu is l t ty c)∧sz48 s∧K [.agg [.imm (.int IntKind.u64 (0:Int)),.imm (.int IntKind.u64 (IntKind.wrap IntKind.u64 ((0:Int) + l0 (Hd.mk v iu is l t ty c) s))),.imm (.int IntKind.u64 (IntKind.wrap IntKind.u64 (IntKind.wrap IntKind.u64 ((0:Int) + l0 (Hd.mk v iu is l t ty c) s) + l1 (Hd.mk v iu is l t ty c)))),.imm (.int IntKind.u64 (IntKind.wrap IntKind.u64 (IntKind.wrap IntKind.u64 (IntKind.wrap IntKind.u64 ((0:Int) + l0 (Hd.mk v iu is l t ty c) s) + l1 (Hd.mk v iu is l t ty c)) + l2 (Hd.mk v iu is l t ty c)))),.imm (.int IntKind.u64 (IntKind.wrap IntKind.u64 (IntKind.wrap IntKind.u64 (IntKind.wrap IntKind.u64 (IntKind.wrap IntKind.u64 ((0:Int) + l0 (Hd.mk v iu is l t ty c) s) + l1 (Hd.mk v iu is l t ty c)) + l2 (Hd.mk v iu is l t ty c)) + l3 (Hd.mk v iu is l t ty c)))),.imm (.int IntKind.u64 (IntKind.wrap IntKind.u64 (IntKind.wrap IntKind.u64 (IntKind.wrap IntKind.u64 (IntKind.wrap IntKind.u64 (IntKind.wrap IntKind.u64 ((0:Int) + l0 (Hd.mk v iu is l t ty c) s) + l1 (Hd.mk v iu
 is l t ty c)) + l2 (Hd.mk v iu is l t ty c)) + l3 (Hd.mk v iu is l t ty c)) + l4 (Hd.mk v iu is l t ty c) s))),.imm (.int IntKind.u64 (IntKind.wrap IntKind.u64 (IntKind.wrap IntKind.u64 (IntKind.wrap IntKind.u64 (IntKind.wrap IntKind.u64 (IntKind.wrap IntKind.u64 (IntKind.wrap IntKind.u64 ((0:Int) + l0 (Hd.mk v iu is l t ty c) s) + l1 (Hd.mk v iu is l t ty c)) + l2 (Hd.mk v iu is l t ty c)) + l3 (Hd.mk v iu is l t ty c)) + l4 (Hd.mk v iu is l t ty c) s) + l5 (Hd.mk v iu is l t ty c)))),.imm (.int IntKind.u64 (IntKind.wrap IntKind.u64 (IntKind.wrap IntKind.u64 (IntKind.wrap IntKind.u64 (IntKind.wrap IntKind.u64 (IntKind.wrap IntKind.u64 (IntKind.wrap IntKind.u64 (IntKind.wrap IntKind.u64 ((0:Int) + l0 (Hd.mk v iu is l t ty c) s) + l1 (Hd.mk v iu is l t ty c)) + l2 (Hd.mk v iu is l t ty c)) + l3 (Hd.mk v iu is l t ty c)) + l4 (Hd.mk v iu is l t ty c) s) + l5 (Hd.mk v iu is l t ty c)) + l6 (Hd.mk v iu is l t ty c))))]]):=by kernel_rfl
theorem f28_in (d:List UInt8) (p:Int) (e:Int) (a:Int) (n:Int) (K:List AV→Prop):evSpec K2 Tryd.f28 [curAV d p e a,i64 n] K = (let R1:Prop:=K [AV.new (IV.bytes (List.map u8 [] ++ List.take ((Cu.p (advU (Cu.mk d p e a) n)).toNat - p.toNat) (List.drop p.toNat d))),.agg [.imm (.bytes (Cu.d (advU (Cu.mk d p e a) n))),.imm (.int .i64 (Cu.p (advU (Cu.mk d p e a) n))),.imm (.int .i64 (Cu.e (advU (Cu.mk d p e a) n))),.imm (.int .i64 (Cu.a (advU (Cu.mk d p e a) n)))]]; let R2:Prop:=((0:Int)≤p∧p≤Cu.p (advU (Cu.mk d p e a) n)∧Cu.p (advU (Cu.mk d p e a) n)≤(d.length:Int)∧((List.map u8 []).length + (List.take ((Cu.p (advU (Cu.mk d p e a) n)).toNat - p.toNat) (List.drop p.toNat d)).length) * 1≤140737488355328∧(List.map u8 []).length + (List.take ((Cu.p (advU (Cu.mk d p e a) n)).toNat - p.toNat) (List.drop p.toNat d)).length≤140737488355328∧R1); let R3:Prop:=(((0:Int)≤p∧p≤Cu.p (advU (Cu.mk d p e a) n)∧Cu.p (advU (Cu.mk d p e a) n)≤(d.length:Int)∧(((List.map u8 []).length + (List.take ((Cu.p (advU (Cu.mk d p e a) n)).toNat - p.toNat) (List.drop p.toNat d)).length) * 1≤140737488355328∧(List.map u8 []).length + (List.take
 ((Cu.p (advU (Cu.mk d p e a) n)).toNat - p.toNat) (List.drop p.toNat d)).length≤140737488355328∧R1)∧((List.map u8 []).length + (List.take ((Cu.p (advU (Cu.mk d p e a) n)).toNat - p.toNat) (List.drop p.toNat d)).length) * 1≤140737488355328∧(List.map u8 []).length + (List.take ((Cu.p (advU (Cu.mk d p e a) n)).toNat - p.toNat) (List.drop p.toNat d)).length≤140737488355328∧R1)∧(0:Int)≤p∧p≤Cu.p (advU (Cu.mk d p e a) n)∧Cu.p (advU (Cu.mk d p e a) n)≤(d.length:Int)∧((List.map u8 []).length + (List.take ((Cu.p (advU (Cu.mk d p e a) n)).toNat - p.toNat) (List.drop p.toNat d)).length) * 1≤140737488355328∧(List.map u8 []).length + (List.take ((Cu.p (advU (Cu.mk d p e a) n)).toNat - p.toNat) (List.drop p.toNat d)).length≤140737488355328∧R1); let R4:Prop:=(R3∧((0:Int)≤p∧p≤Cu.p (advU (Cu.mk d p e a) n)∧Cu.p (advU (Cu.mk d p e a) n)≤(d.length:Int)∧((((List.map u8 []).length + (List.take ((Cu.p (advU (Cu.mk d p e a) n)).toNat - p.toNat) (List.drop p.toNat d)).length) * 1≤140737488355328∧(List.map u8 []).length + (List.take ((Cu.p (advU (Cu.mk d p e a) n)).toNat - p.toNat) (List.drop p.toNat d)).length≤140737488355328∧R1) ∧
 ((List.map u8 []).length + (List.take ((Cu.p (advU (Cu.mk d p e a) n)).toNat - p.toNat) (List.drop p.toNat d)).length) * 1≤140737488355328∧(List.map u8 []).length + (List.take ((Cu.p (advU (Cu.mk d p e a) n)).toNat - p.toNat) (List.drop p.toNat d)).length≤140737488355328∧R1)∧((List.map u8 []).length + (List.take ((Cu.p (advU (Cu.mk d p e a) n)).toNat - p.toNat) (List.drop p.toNat d)).length) * 1≤140737488355328∧(List.map u8 []).length + (List.take ((Cu.p (advU (Cu.mk d p e a) n)).toNat - p.toNat) (List.drop p.toNat d)).length≤140737488355328∧R1)∧R2∧(0:Int)≤p∧p≤Cu.p (advU (Cu.mk d p e a) n)∧Cu.p (advU (Cu.mk d p e a) n)≤(d.length:Int)∧((List.map u8 []).length + (List.take ((Cu.p (advU (Cu.mk d p e a) n)).toNat - p.toNat) (List.drop p.toNat d)).length) * 1≤140737488355328∧(List.map u8 []).length + (List.take ((Cu.p (advU (Cu.mk d p e a) n)).toNat - p.toNat) (List.drop p.toNat d)).length≤140737488355328∧R1); let R5:Prop:=((R3∧(0:Int)≤p∧p≤Cu.p (advU (Cu.mk d p e a) n)∧Cu.p (advU (Cu.mk d p e a) n)≤(d.length:Int)∧((List.map u8 []).length + (List.take ((Cu.p (advU (Cu.mk d p e a) n)).toNat - p.toNat) (List.drop p.toNat
 d)).length) * 1≤140737488355328∧(List.map u8 []).length + (List.take ((Cu.p (advU (Cu.mk d p e a) n)).toNat - p.toNat) (List.drop p.toNat d)).length≤140737488355328∧R1)∧(R3∧R4∧R2∧R2∧(0:Int)≤p∧p≤Cu.p (advU (Cu.mk d p e a) n)∧Cu.p (advU (Cu.mk d p e a) n)≤(d.length:Int)∧((List.map u8 []).length + (List.take ((Cu.p (advU (Cu.mk d p e a) n)).toNat - p.toNat) (List.drop p.toNat d)).length) * 1≤140737488355328∧(List.map u8 []).length + (List.take ((Cu.p (advU (Cu.mk d p e a) n)).toNat - p.toNat) (List.drop p.toNat d)).length≤140737488355328∧R1)∧((R3∧(0:Int)≤p∧p≤Cu.p (advU (Cu.mk d p e a) n)∧Cu.p (advU (Cu.mk d p e a) n)≤(d.length:Int)∧((List.map u8 []).length + (List.take ((Cu.p (advU (Cu.mk d p e a) n)).toNat - p.toNat) (List.drop p.toNat d)).length) * 1≤140737488355328∧(List.map u8 []).length + (List.take ((Cu.p (advU (Cu.mk d p e a) n)).toNat - p.toNat) (List.drop p.toNat d)).length≤140737488355328∧R1)∧R4∧R2∧R2∧(0:Int)≤p∧p≤Cu.p (advU (Cu.mk d p e a) n)∧Cu.p (advU (Cu.mk d p e a) n)≤(d.length:Int)∧((List.map u8 []).length + (List.take ((Cu.p (advU (Cu.mk d p e a) n)).toNat - p.toNat) (List.drop
 p.toNat d)).length) * 1≤140737488355328∧(List.map u8 []).length + (List.take ((Cu.p (advU (Cu.mk d p e a) n)).toNat - p.toNat) (List.drop p.toNat d)).length≤140737488355328∧R1)∧R2∧(R2∧R2∧(0:Int)≤p∧p≤Cu.p (advU (Cu.mk d p e a) n)∧Cu.p (advU (Cu.mk d p e a) n)≤(d.length:Int)∧((List.map u8 []).length + (List.take ((Cu.p (advU (Cu.mk d p e a) n)).toNat - p.toNat) (List.drop p.toNat d)).length) * 1≤140737488355328∧(List.map u8 []).length + (List.take ((Cu.p (advU (Cu.mk d p e a) n)).toNat - p.toNat) (List.drop p.toNat d)).length≤140737488355328∧R1)∧R2∧R2∧(0:Int)≤p∧p≤Cu.p (advU (Cu.mk d p e a) n)∧Cu.p (advU (Cu.mk d p e a) n)≤(d.length:Int)∧((List.map u8 []).length + (List.take ((Cu.p (advU (Cu.mk d p e a) n)).toNat - p.toNat) (List.drop p.toNat d)).length) * 1≤140737488355328∧(List.map u8 []).length + (List.take ((Cu.p (advU (Cu.mk d p e a) n)).toNat - p.toNat) (List.drop p.toNat d)).length≤140737488355328∧R1); let R6:Prop:=(R2∧R2∧(0:Int)≤p∧p≤Cu.p (advU (Cu.mk d p e a) n)∧Cu.p (advU (Cu.mk d p e a) n)≤(d.length:Int)∧((List.map u8 []).length + (List.take ((Cu.p (advU (Cu.mk d p e a) n)).toNat -
 p.toNat) (List.drop p.toNat d)).length) * 1≤140737488355328∧(List.map u8 []).length + (List.take ((Cu.p (advU (Cu.mk d p e a) n)).toNat - p.toNat) (List.drop p.toNat d)).length≤140737488355328∧R1); let R7:Prop:=(R3∧R4∧R2∧R2∧(0:Int)≤p∧p≤Cu.p (advU (Cu.mk d p e a) n)∧Cu.p (advU (Cu.mk d p e a) n)≤(d.length:Int)∧((List.map u8 []).length + (List.take ((Cu.p (advU (Cu.mk d p e a) n)).toNat - p.toNat) (List.drop p.toNat d)).length) * 1≤140737488355328∧(List.map u8 []).length + (List.take ((Cu.p (advU (Cu.mk d p e a) n)).toNat - p.toNat) (List.drop p.toNat d)).length≤140737488355328∧R1); let R8:Prop:=(R2∧R6∧R2∧R2∧(0:Int)≤p∧p≤Cu.p (advU (Cu.mk d p e a) n)∧Cu.p (advU (Cu.mk d p e a) n)≤(d.length:Int)∧((List.map u8 []).length + (List.take ((Cu.p (advU (Cu.mk d p e a) n)).toNat - p.toNat) (List.drop p.toNat d)).length) * 1≤140737488355328∧(List.map u8 []).length + (List.take ((Cu.p (advU (Cu.mk d p e a) n)).toNat - p.toNat) (List.drop p.toNat d)).length≤140737488355328∧R1); okU (Cu.mk d p e a)∧brn (!advOk (Cu.mk d p e a) n) (K [AV.new (IV.bytes []),.agg [.imm (.bytes (Cu.d (advU (Cu.mk d p e a) n))),.imm (.int
 .i64 (Cu.p (advU (Cu.mk d p e a) n))),.imm (.int .i64 (Cu.e (advU (Cu.mk d p e a) n))),.imm (.int .i64 (Cu.a (advU (Cu.mk d p e a) n)))]]) ((R3∧(0:Int)≤p∧p≤Cu.p (advU (Cu.mk d p e a) n)∧Cu.p (advU (Cu.mk d p e a) n)≤(d.length:Int)∧((List.map u8 []).length + (List.take ((Cu.p (advU (Cu.mk d p e a) n)).toNat - p.toNat) (List.drop p.toNat d)).length) * 1≤140737488355328∧(List.map u8 []).length + (List.take ((Cu.p (advU (Cu.mk d p e a) n)).toNat - p.toNat) (List.drop p.toNat d)).length≤140737488355328∧R1)∧(R3∧R7∧R7∧R2∧R6∧R2∧R2∧(0:Int)≤p∧p≤Cu.p (advU (Cu.mk d p e a) n)∧Cu.p (advU (Cu.mk d p e a) n)≤(d.length:Int)∧((List.map u8 []).length + (List.take ((Cu.p (advU (Cu.mk d p e a) n)).toNat - p.toNat) (List.drop p.toNat d)).length) * 1≤140737488355328∧(List.map u8 []).length + (List.take ((Cu.p (advU (Cu.mk d p e a) n)).toNat - p.toNat) (List.drop p.toNat d)).length≤140737488355328∧R1)∧R5∧R5∧R2∧R8∧R8∧R2∧R6∧R2∧R2∧(0:Int)≤p∧p≤Cu.p (advU (Cu.mk d p e a) n)∧Cu.p (advU (Cu.mk d p e a) n)≤(d.length:Int)∧((List.map u8 []).length + (List.take ((Cu.p (advU (Cu.mk d p e a) n)).toNat - p.toNat)
 (List.drop p.toNat d)).length) * 1≤140737488355328∧(List.map u8 []).length + (List.take ((Cu.p (advU (Cu.mk d p e a) n)).toNat - p.toNat) (List.drop p.toNat d)).length≤140737488355328∧R1)):=by kernel_rfl
theorem f53_in (a:List UInt8) (b:List UInt8) (c:List UInt8) (d:List UInt8) (e:List UInt8) (f:List UInt8) (g:List UInt8) (K:List AV→Prop):evSpec K1u Tryd.f53 [.imm (.sl (1:Nat) [[IV.bytes a],[IV.bytes b],[IV.bytes c],[IV.bytes d],[IV.bytes e],[IV.bytes f],[IV.bytes g]])] K = ((0:Int)≤0∧(0:Int) < (↑(List.length [[IV.bytes a],[IV.bytes b],[IV.bytes c],[IV.bytes d],[IV.bytes e],[IV.bytes f],[IV.bytes g]]):Int)∧kcells (List.getD [[IV.bytes a],[IV.bytes b],[IV.bytes c],[IV.bytes d],[IV.bytes e],[IV.bytes f],[IV.bytes g]] (0:Int).toNat []) (0:Nat) [CK.any] = List.getD [[IV.bytes a],[IV.bytes b],[IV.bytes c],[IV.bytes d],[IV.bytes e],[IV.bytes f],[IV.bytes g]] (0:Int).toNat []∧brn (decide (IntKind.wrap .i64 ((0:Int) + (a.length:Int)) < 0)) False ((0:Int)≤IntKind.wrap .i64 ((0:Int) + 1)∧IntKind.wrap .i64 ((0:Int) + 1) < (↑(List.length [[IV.bytes a],[IV.bytes b],[IV.bytes c],[IV.bytes d],[IV.bytes e],[IV.bytes f],[IV.bytes g]]):Int)∧kcells (List.getD [[IV.bytes a],[IV.bytes b],[IV.bytes c],[IV.bytes d],[IV.bytes e],[IV.bytes f],[IV.bytes g]] (IntKind.wrap .i64 ((0:Int) + 1)).toNat []) (0:Nat)
 [CK.any] = List.getD [[IV.bytes a],[IV.bytes b],[IV.bytes c],[IV.bytes d],[IV.bytes e],[IV.bytes f],[IV.bytes g]] (IntKind.wrap .i64 ((0:Int) + 1)).toNat []∧brn (decide (IntKind.wrap .i64 (IntKind.wrap .i64 ((0:Int) + (a.length:Int)) + (b.length:Int)) < 0)) False ((0:Int)≤IntKind.wrap .i64 (IntKind.wrap .i64 ((0:Int) + 1) + 1)∧IntKind.wrap .i64 (IntKind.wrap .i64 ((0:Int) + 1) + 1) < (↑(List.length [[IV.bytes a],[IV.bytes b],[IV.bytes c],[IV.bytes d],[IV.bytes e],[IV.bytes f],[IV.bytes g]]):Int)∧kcells (List.getD [[IV.bytes a],[IV.bytes b],[IV.bytes c],[IV.bytes d],[IV.bytes e],[IV.bytes f],[IV.bytes g]] (IntKind.wrap .i64 (IntKind.wrap .i64 ((0:Int) + 1) + 1)).toNat []) (0:Nat) [CK.any] = List.getD [[IV.bytes a],[IV.bytes b],[IV.bytes c],[IV.bytes d],[IV.bytes e],[IV.bytes f],[IV.bytes g]] (IntKind.wrap .i64 (IntKind.wrap .i64 ((0:Int) + 1) + 1)).toNat []∧brn (decide (IntKind.wrap .i64 (IntKind.wrap .i64 (IntKind.wrap .i64 ((0:Int) + (a.length:Int)) + (b.length:Int)) + (c.length:Int)) < 0)) False ((0:Int)≤IntKind.wrap .i64 (IntKind.wrap .i64 (IntKind.wrap .i64 ((0:Int) + 1) + 1) + 1)∧IntKind.wrap .i64
 (IntKind.wrap .i64 (IntKind.wrap .i64 ((0:Int) + 1) + 1) + 1) < (↑(List.length [[IV.bytes a],[IV.bytes b],[IV.bytes c],[IV.bytes d],[IV.bytes e],[IV.bytes f],[IV.bytes g]]):Int)∧kcells (List.getD [[IV.bytes a],[IV.bytes b],[IV.bytes c],[IV.bytes d],[IV.bytes e],[IV.bytes f],[IV.bytes g]] (IntKind.wrap .i64 (IntKind.wrap .i64 (IntKind.wrap .i64 ((0:Int) + 1) + 1) + 1)).toNat []) (0:Nat) [CK.any] = List.getD [[IV.bytes a],[IV.bytes b],[IV.bytes c],[IV.bytes d],[IV.bytes e],[IV.bytes f],[IV.bytes g]] (IntKind.wrap .i64 (IntKind.wrap .i64 (IntKind.wrap .i64 ((0:Int) + 1) + 1) + 1)).toNat []∧brn (decide (IntKind.wrap .i64 (IntKind.wrap .i64 (IntKind.wrap .i64 (IntKind.wrap .i64 ((0:Int) + (a.length:Int)) + (b.length:Int)) + (c.length:Int)) + (d.length:Int)) < 0)) False ((0:Int)≤IntKind.wrap .i64 (IntKind.wrap .i64 (IntKind.wrap .i64 (IntKind.wrap .i64 ((0:Int) + 1) + 1) + 1) + 1)∧IntKind.wrap .i64 (IntKind.wrap .i64 (IntKind.wrap .i64 (IntKind.wrap .i64 ((0:Int) + 1) + 1) + 1) + 1) < (↑(List.length [[IV.bytes a],[IV.bytes b],[IV.bytes c],[IV.bytes d],[IV.bytes e],[IV.bytes f],[IV.bytes g]]):Int)∧kcells (List.getD [[IV.bytes
 a],[IV.bytes b],[IV.bytes c],[IV.bytes d],[IV.bytes e],[IV.bytes f],[IV.bytes g]] (IntKind.wrap .i64 (IntKind.wrap .i64 (IntKind.wrap .i64 (IntKind.wrap .i64 ((0:Int) + 1) + 1) + 1) + 1)).toNat []) (0:Nat) [CK.any] = List.getD [[IV.bytes a],[IV.bytes b],[IV.bytes c],[IV.bytes d],[IV.bytes e],[IV.bytes f],[IV.bytes g]] (IntKind.wrap .i64 (IntKind.wrap .i64 (IntKind.wrap .i64 (IntKind.wrap .i64 ((0:Int) + 1) + 1) + 1) + 1)).toNat []∧brn (decide (IntKind.wrap .i64 (IntKind.wrap .i64 (IntKind.wrap .i64 (IntKind.wrap .i64 (IntKind.wrap .i64 ((0:Int) + (a.length:Int)) + (b.length:Int)) + (c.length:Int)) + (d.length:Int)) + (e.length:Int)) < 0)) False ((0:Int)≤IntKind.wrap .i64 (IntKind.wrap .i64 (IntKind.wrap .i64 (IntKind.wrap .i64 (IntKind.wrap .i64 ((0:Int) + 1) + 1) + 1) + 1) + 1)∧IntKind.wrap .i64 (IntKind.wrap .i64 (IntKind.wrap .i64 (IntKind.wrap .i64 (IntKind.wrap .i64 ((0:Int) + 1) + 1) + 1) + 1) + 1) < (↑(List.length [[IV.bytes a],[IV.bytes b],[IV.bytes c],[IV.bytes d],[IV.bytes e],[IV.bytes f],[IV.bytes g]]):Int)∧kcells (List.getD [[IV.bytes a],[IV.bytes b],[IV.bytes c],[IV.bytes d],[IV.bytes e],[IV.bytes f],[IV.bytes
 g]] (IntKind.wrap .i64 (IntKind.wrap .i64 (IntKind.wrap .i64 (IntKind.wrap .i64 (IntKind.wrap .i64 ((0:Int) + 1) + 1) + 1) + 1) + 1)).toNat []) (0:Nat) [CK.any] = List.getD [[IV.bytes a],[IV.bytes b],[IV.bytes c],[IV.bytes d],[IV.bytes e],[IV.bytes f],[IV.bytes g]] (IntKind.wrap .i64 (IntKind.wrap .i64 (IntKind.wrap .i64 (IntKind.wrap .i64 (IntKind.wrap .i64 ((0:Int) + 1) + 1) + 1) + 1) + 1)).toNat []∧brn (decide (IntKind.wrap .i64 (IntKind.wrap .i64 (IntKind.wrap .i64 (IntKind.wrap .i64 (IntKind.wrap .i64 (IntKind.wrap .i64 ((0:Int) + (a.length:Int)) + (b.length:Int)) + (c.length:Int)) + (d.length:Int)) + (e.length:Int)) + (f.length:Int)) < 0)) False ((0:Int)≤IntKind.wrap .i64 (IntKind.wrap .i64 (IntKind.wrap .i64 (IntKind.wrap .i64 (IntKind.wrap .i64 (IntKind.wrap .i64 ((0:Int) + 1) + 1) + 1) + 1) + 1) + 1)∧IntKind.wrap .i64 (IntKind.wrap .i64 (IntKind.wrap .i64 (IntKind.wrap .i64 (IntKind.wrap .i64 (IntKind.wrap .i64 ((0:Int) + 1) + 1) + 1) + 1) + 1) + 1) < (↑(List.length [[IV.bytes a],[IV.bytes b],[IV.bytes c],[IV.bytes d],[IV.bytes e],[IV.bytes f],[IV.bytes g]]):Int)∧kcells (List.getD [[IV.bytes a],[IV.bytes b],[IV.bytes c],
 [IV.bytes d],[IV.bytes e],[IV.bytes f],[IV.bytes g]] (IntKind.wrap .i64 (IntKind.wrap .i64 (IntKind.wrap .i64 (IntKind.wrap .i64 (IntKind.wrap .i64 (IntKind.wrap .i64 ((0:Int) + 1) + 1) + 1) + 1) + 1) + 1)).toNat []) (0:Nat) [CK.any] = List.getD [[IV.bytes a],[IV.bytes b],[IV.bytes c],[IV.bytes d],[IV.bytes e],[IV.bytes f],[IV.bytes g]] (IntKind.wrap .i64 (IntKind.wrap .i64 (IntKind.wrap .i64 (IntKind.wrap .i64 (IntKind.wrap .i64 (IntKind.wrap .i64 ((0:Int) + 1) + 1) + 1) + 1) + 1) + 1)).toNat []∧brn (decide (IntKind.wrap .i64 (IntKind.wrap .i64 (IntKind.wrap .i64 (IntKind.wrap .i64 (IntKind.wrap .i64 (IntKind.wrap .i64 (IntKind.wrap .i64 ((0:Int) + (a.length:Int)) + (b.length:Int)) + (c.length:Int)) + (d.length:Int)) + (e.length:Int)) + (f.length:Int)) + (g.length:Int)) < 0)) False ((0:Int)≤IntKind.wrap .i64 (IntKind.wrap .i64 (IntKind.wrap .i64 (IntKind.wrap .i64 (IntKind.wrap .i64 (IntKind.wrap .i64 (IntKind.wrap .i64 ((0:Int) + (a.length:Int)) + (b.length:Int)) + (c.length:Int)) + (d.length:Int)) + (e.length:Int)) + (f.length:Int)) + (g.length:Int))∧IntKind.wrap .i64 (IntKind.wrap .i64 (IntKind.wrap .i64 (IntKind.wrap .i64
 (IntKind.wrap .i64 (IntKind.wrap .i64 (IntKind.wrap .i64 ((0:Int) + (a.length:Int)) + (b.length:Int)) + (c.length:Int)) + (d.length:Int)) + (e.length:Int)) + (f.length:Int)) + (g.length:Int))≤100000000000000∧(0:Int)≤0∧(0:Int) < (↑(List.length [[IV.bytes a],[IV.bytes b],[IV.bytes c],[IV.bytes d],[IV.bytes e],[IV.bytes f],[IV.bytes g]]):Int)∧kcells (List.getD [[IV.bytes a],[IV.bytes b],[IV.bytes c],[IV.bytes d],[IV.bytes e],[IV.bytes f],[IV.bytes g]] (0:Int).toNat []) (0:Nat) [CK.any] = List.getD [[IV.bytes a],[IV.bytes b],[IV.bytes c],[IV.bytes d],[IV.bytes e],[IV.bytes f],[IV.bytes g]] (0:Int).toNat []∧(([]:List UInt8).length + a.length) * 1≤140737488355328∧([]:List UInt8).length + a.length≤140737488355328∧(0:Int)≤IntKind.wrap .i64 ((0:Int) + 1)∧IntKind.wrap .i64 ((0:Int) + 1) < (↑(List.length [[IV.bytes a],[IV.bytes b],[IV.bytes c],[IV.bytes d],[IV.bytes e],[IV.bytes f],[IV.bytes g]]):Int)∧kcells (List.getD [[IV.bytes a],[IV.bytes b],[IV.bytes c],[IV.bytes d],[IV.bytes e],[IV.bytes f],[IV.bytes g]] (IntKind.wrap .i64 ((0:Int) + 1)).toNat []) (0:Nat) [CK.any] = List.getD [[IV.bytes
 a],[IV.bytes b],[IV.bytes c],[IV.bytes d],[IV.bytes e],[IV.bytes f],[IV.bytes g]] (IntKind.wrap .i64 ((0:Int) + 1)).toNat []∧(([] ++ a).length + b.length) * 1≤140737488355328∧([] ++ a).length + b.length≤140737488355328∧(0:Int)≤IntKind.wrap .i64 (IntKind.wrap .i64 ((0:Int) + 1) + 1)∧IntKind.wrap .i64 (IntKind.wrap .i64 ((0:Int) + 1) + 1) < (↑(List.length [[IV.bytes a],[IV.bytes b],[IV.bytes c],[IV.bytes d],[IV.bytes e],[IV.bytes f],[IV.bytes g]]):Int)∧kcells (List.getD [[IV.bytes a],[IV.bytes b],[IV.bytes c],[IV.bytes d],[IV.bytes e],[IV.bytes f],[IV.bytes g]] (IntKind.wrap .i64 (IntKind.wrap .i64 ((0:Int) + 1) + 1)).toNat []) (0:Nat) [CK.any] = List.getD [[IV.bytes a],[IV.bytes b],[IV.bytes c],[IV.bytes d],[IV.bytes e],[IV.bytes f],[IV.bytes g]] (IntKind.wrap .i64 (IntKind.wrap .i64 ((0:Int) + 1) + 1)).toNat []∧(([] ++ a ++ b).length + c.length) * 1≤140737488355328∧([] ++ a ++ b).length + c.length≤140737488355328∧(0:Int)≤IntKind.wrap .i64 (IntKind.wrap .i64 (IntKind.wrap .i64 ((0:Int) + 1) + 1) + 1)∧IntKind.wrap .i64 (IntKind.wrap .i64 (IntKind.wrap .i64 ((0:Int) + 1) + 1) + 1) < (↑(List.length [[IV.bytes
 a],[IV.bytes b],[IV.bytes c],[IV.bytes d],[IV.bytes e],[IV.bytes f],[IV.bytes g]]):Int)∧kcells (List.getD [[IV.bytes a],[IV.bytes b],[IV.bytes c],[IV.bytes d],[IV.bytes e],[IV.bytes f],[IV.bytes g]] (IntKind.wrap .i64 (IntKind.wrap .i64 (IntKind.wrap .i64 ((0:Int) + 1) + 1) + 1)).toNat []) (0:Nat) [CK.any] = List.getD [[IV.bytes a],[IV.bytes b],[IV.bytes c],[IV.bytes d],[IV.bytes e],[IV.bytes f],[IV.bytes g]] (IntKind.wrap .i64 (IntKind.wrap .i64 (IntKind.wrap .i64 ((0:Int) + 1) + 1) + 1)).toNat []∧(([] ++ a ++ b ++ c).length + d.length) * 1≤140737488355328∧([] ++ a ++ b ++ c).length + d.length≤140737488355328∧(0:Int)≤IntKind.wrap .i64 (IntKind.wrap .i64 (IntKind.wrap .i64 (IntKind.wrap .i64 ((0:Int) + 1) + 1) + 1) + 1)∧IntKind.wrap .i64 (IntKind.wrap .i64 (IntKind.wrap .i64 (IntKind.wrap .i64 ((0:Int) + 1) + 1) + 1) + 1) < (↑(List.length [[IV.bytes a],[IV.bytes b],[IV.bytes c],[IV.bytes d],[IV.bytes e],[IV.bytes f],[IV.bytes g]]):Int)∧kcells (List.getD [[IV.bytes a],[IV.bytes b],[IV.bytes c],[IV.bytes d],[IV.bytes e],[IV.bytes f],[IV.bytes g]] (IntKind.wrap .i64 (IntKind.wrap .i64 (IntKind.wrap .i64 (IntKind.wrap .i64
 ((0:Int) + 1) + 1) + 1) + 1)).toNat []) (0:Nat) [CK.any] = List.getD [[IV.bytes a],[IV.bytes b],[IV.bytes c],[IV.bytes d],[IV.bytes e],[IV.bytes f],[IV.bytes g]] (IntKind.wrap .i64 (IntKind.wrap .i64 (IntKind.wrap .i64 (IntKind.wrap .i64 ((0:Int) + 1) + 1) + 1) + 1)).toNat []∧(([] ++ a ++ b ++ c ++ d).length + e.length) * 1≤140737488355328∧([] ++ a ++ b ++ c ++ d).length + e.length≤140737488355328∧(0:Int)≤IntKind.wrap .i64 (IntKind.wrap .i64 (IntKind.wrap .i64 (IntKind.wrap .i64 (IntKind.wrap .i64 ((0:Int) + 1) + 1) + 1) + 1) + 1)∧IntKind.wrap .i64 (IntKind.wrap .i64 (IntKind.wrap .i64 (IntKind.wrap .i64 (IntKind.wrap .i64 ((0:Int) + 1) + 1) + 1) + 1) + 1) < (↑(List.length [[IV.bytes a],[IV.bytes b],[IV.bytes c],[IV.bytes d],[IV.bytes e],[IV.bytes f],[IV.bytes g]]):Int)∧kcells (List.getD [[IV.bytes a],[IV.bytes b],[IV.bytes c],[IV.bytes d],[IV.bytes e],[IV.bytes f],[IV.bytes g]] (IntKind.wrap .i64 (IntKind.wrap .i64 (IntKind.wrap .i64 (IntKind.wrap .i64 (IntKind.wrap .i64 ((0:Int) + 1) + 1) + 1) + 1) + 1)).toNat []) (0:Nat) [CK.any] = List.getD [[IV.bytes a],[IV.bytes b],[IV.bytes c],[IV.bytes d],[IV.bytes e],[IV.bytes f],
 [IV.bytes g]] (IntKind.wrap .i64 (IntKind.wrap .i64 (IntKind.wrap .i64 (IntKind.wrap .i64 (IntKind.wrap .i64 ((0:Int) + 1) + 1) + 1) + 1) + 1)).toNat []∧(([] ++ a ++ b ++ c ++ d ++ e).length + f.length) * 1≤140737488355328∧([] ++ a ++ b ++ c ++ d ++ e).length + f.length≤140737488355328∧(0:Int)≤IntKind.wrap .i64 (IntKind.wrap .i64 (IntKind.wrap .i64 (IntKind.wrap .i64 (IntKind.wrap .i64 (IntKind.wrap .i64 ((0:Int) + 1) + 1) + 1) + 1) + 1) + 1)∧IntKind.wrap .i64 (IntKind.wrap .i64 (IntKind.wrap .i64 (IntKind.wrap .i64 (IntKind.wrap .i64 (IntKind.wrap .i64 ((0:Int) + 1) + 1) + 1) + 1) + 1) + 1) < (↑(List.length [[IV.bytes a],[IV.bytes b],[IV.bytes c],[IV.bytes d],[IV.bytes e],[IV.bytes f],[IV.bytes g]]):Int)∧kcells (List.getD [[IV.bytes a],[IV.bytes b],[IV.bytes c],[IV.bytes d],[IV.bytes e],[IV.bytes f],[IV.bytes g]] (IntKind.wrap .i64 (IntKind.wrap .i64 (IntKind.wrap .i64 (IntKind.wrap .i64 (IntKind.wrap .i64 (IntKind.wrap .i64 ((0:Int) + 1) + 1) + 1) + 1) + 1) + 1)).toNat []) (0:Nat) [CK.any] = List.getD [[IV.bytes a],[IV.bytes b],[IV.bytes c],[IV.bytes d],[IV.bytes e],[IV.bytes f],[IV.bytes g]] (IntKind.wrap .i64 (IntKind.wrap .i64
 (IntKind.wrap .i64 (IntKind.wrap .i64 (IntKind.wrap .i64 (IntKind.wrap .i64 ((0:Int) + 1) + 1) + 1) + 1) + 1) + 1)).toNat []∧(([] ++ a ++ b ++ c ++ d ++ e ++ f).length + g.length) * 1≤140737488355328∧([] ++ a ++ b ++ c ++ d ++ e ++ f).length + g.length≤140737488355328∧K [AV.new (IV.bytes ([] ++ a ++ b ++ c ++ d ++ e ++ f ++ g))])))))))):=by kernel_rfl
end Z19
set_option maxRecDepth 100000
namespace Z19
open Go Go.AE Go.Proofs D6
attribute [local irreducible] loopK evCode evSpec loopB norm
theorem f42_lp (a:List Int) (b:List Int) (i:Nat) (k:AX→St→Prop):evCode K0 (loopB (bodyOf Tryd.f42) (0:Nat)) (hA (ii a) (ii b) i) k = (brn (decide ((↑i:Int) < (a.length:Int))) ((0:Int)≤(↑i:Int)∧(↑i:Int) < (a.length:Int)∧(0:Int)≤(↑i:Int)∧(↑i:Int) < (b.length:Int)∧brn (List.getD a (↑i:Int).toNat (0:Int) != List.getD b (↑i:Int).toNat (0:Int)) (k AX.ret (St.mk [.imm (.ints IntKind.i64 a),.imm (.ints IntKind.i64 b),.dead,.dead,.imm (.bool false),.imm (.int .i64 (↑i:Int)),.dead,.dead,.dead,.dead,.dead,.imm (.int .i64 (↑i:Int)),.imm (.ints IntKind.i64 a),.imm (.int .i64 (a.length:Int)),.imm (.bool (decide ((↑i:Int) < (a.length:Int)))),.dead,.dead,.imm (.ints IntKind.i64 a),.imm (.int .i64 (↑i:Int)),AV.elv [IV.int .i64 (List.getD a (↑i:Int).toNat (0:Int))],.imm (.int .i64 (List.getD a (↑i:Int).toNat (0:Int))),.imm (.ints IntKind.i64 b),.imm (.int .i64 (↑i:Int)),AV.elv [IV.int .i64 (List.getD b (↑i:Int).toNat (0:Int))],.imm (.int .i64 (List.getD b (↑i:Int).toNat (0:Int))),.imm (.bool (List.getD a (↑i:Int).toNat (0:Int) != List.getD b (↑i:Int).toNat (0:Int)))] [] (0:Nat)
 [])) (k AX.normal (St.mk [.imm (.ints IntKind.i64 a),.imm (.ints IntKind.i64 b),.dead,.dead,.dead,.imm (.int .i64 (IntKind.wrap .i64 ((↑i:Int) + 1))),.dead,.dead,.dead,.dead,.dead,.imm (.int .i64 (↑i:Int)),.imm (.ints IntKind.i64 a),.imm (.int .i64 (a.length:Int)),.imm (.bool (decide ((↑i:Int) < (a.length:Int)))),.imm (.int .i64 (↑i:Int)),.imm (.int .i64 (IntKind.wrap .i64 ((↑i:Int) + 1))),.imm (.ints IntKind.i64 a),.imm (.int .i64 (↑i:Int)),AV.elv [IV.int .i64 (List.getD a (↑i:Int).toNat (0:Int))],.imm (.int .i64 (List.getD a (↑i:Int).toNat (0:Int))),.imm (.ints IntKind.i64 b),.imm (.int .i64 (↑i:Int)),AV.elv [IV.int .i64 (List.getD b (↑i:Int).toNat (0:Int))],.imm (.int .i64 (List.getD b (↑i:Int).toNat (0:Int))),.imm (.bool (List.getD a (↑i:Int).toNat (0:Int) != List.getD b (↑i:Int).toNat (0:Int)))] [] (0:Nat) []))) (k (AX.exit (0:Nat)) (St.mk [.imm (.ints IntKind.i64 a),.imm (.ints IntKind.i64 b),.dead,.dead,.dead,.imm (.int .i64 (↑i:Int)),.dead,.dead,.dead,.dead,.dead,.imm (.int .i64 (↑i:Int)),.imm (.ints IntKind.i64 a),.imm (.int .i64 (a.length:Int)),.imm (.bool (decide ((↑i:Int) <
 (a.length:Int)))),.dead,.dead,.dead,.dead,.dead,.dead,.dead,.dead,.dead,.dead,.dead] [] (0:Nat) []))):=by kernel_rfl
theorem f44_lp (a:List (List IV)) (b:List (List IV)) (i:Nat) (k:AX→St→Prop):evCode K0 (loopB (bodyOf Tryd.f44) (0:Nat)) (hA (ll a) (ll b) i) k = (brn (decide ((↑i:Int) < (a.length:Int))) ((0:Int)≤(↑i:Int)∧(↑i:Int) < (a.length:Int)∧kcells (List.getD a (↑i:Int).toNat []) (0:Nat) (lapp [CK.int IntKind.i64] (lapp [CK.int IntKind.i32] [])) = List.getD a (↑i:Int).toNat []∧(0:Int)≤(↑i:Int)∧(↑i:Int) < (b.length:Int)∧kcells (List.getD b (↑i:Int).toNat []) (0:Nat) (lapp [CK.int IntKind.i64] (lapp [CK.int IntKind.i32] [])) = List.getD b (↑i:Int).toNat []∧brn (!(ivInt (ivNth (List.getD a (↑i:Int).toNat []) (0:Nat)) == ivInt (ivNth (List.getD b (↑i:Int).toNat []) (0:Nat)) && (ivInt (ivNth (List.getD a (↑i:Int).toNat []) ((0:Nat) + 1)) == ivInt (ivNth (List.getD b (↑i:Int).toNat []) ((0:Nat) + 1)) && true))) (k AX.ret (St.mk [.imm (.sl (2:Nat) a),.imm (.sl (2:Nat) b),.dead,.dead,.imm (.bool false),.imm (.int .i64 (↑i:Int)),.dead,.dead,.dead,.dead,.dead,.imm (.int .i64 (↑i:Int)),.imm (.sl (2:Nat) a),.imm (.int .i64 (a.length:Int)),.imm (.bool (decide ((↑i:Int) < (a.length:Int)))),.dead,
 .dead,.imm (.sl (2:Nat) a),.imm (.int .i64 (↑i:Int)),AV.elv [IV.int .i64 (ivInt (ivNth (List.getD a (↑i:Int).toNat []) (0:Nat))),IV.int IntKind.i32 (ivInt (ivNth (List.getD a (↑i:Int).toNat []) ((0:Nat) + 1)))],.agg [.imm (.int .i64 (ivInt (ivNth (List.getD a (↑i:Int).toNat []) (0:Nat)))),.imm (.int IntKind.i32 (ivInt (ivNth (List.getD a (↑i:Int).toNat []) ((0:Nat) + 1))))],.imm (.sl (2:Nat) b),.imm (.int .i64 (↑i:Int)),AV.elv [IV.int .i64 (ivInt (ivNth (List.getD b (↑i:Int).toNat []) (0:Nat))),IV.int IntKind.i32 (ivInt (ivNth (List.getD b (↑i:Int).toNat []) ((0:Nat) + 1)))],.agg [.imm (.int .i64 (ivInt (ivNth (List.getD b (↑i:Int).toNat []) (0:Nat)))),.imm (.int IntKind.i32 (ivInt (ivNth (List.getD b (↑i:Int).toNat []) ((0:Nat) + 1))))],.imm (.bool !(ivInt (ivNth (List.getD a (↑i:Int).toNat []) (0:Nat)) == ivInt (ivNth (List.getD b (↑i:Int).toNat []) (0:Nat)) && (ivInt (ivNth (List.getD a (↑i:Int).toNat []) ((0:Nat) + 1)) == ivInt (ivNth (List.getD b (↑i:Int).toNat []) ((0:Nat) + 1)) && true)))] [] (0:Nat) [])) (k AX.normal (St.mk [.imm (.sl (2:Nat) a),.imm (.sl (2:Nat) b),.dead,.dead,.dead,.imm (.int
 .i64 (IntKind.wrap .i64 ((↑i:Int) + 1))),.dead,.dead,.dead,.dead,.dead,.imm (.int .i64 (↑i:Int)),.imm (.sl (2:Nat) a),.imm (.int .i64 (a.length:Int)),.imm (.bool (decide ((↑i:Int) < (a.length:Int)))),.imm (.int .i64 (↑i:Int)),.imm (.int .i64 (IntKind.wrap .i64 ((↑i:Int) + 1))),.imm (.sl (2:Nat) a),.imm (.int .i64 (↑i:Int)),AV.elv [IV.int .i64 (ivInt (ivNth (List.getD a (↑i:Int).toNat []) (0:Nat))),IV.int IntKind.i32 (ivInt (ivNth (List.getD a (↑i:Int).toNat []) ((0:Nat) + 1)))],.agg [.imm (.int .i64 (ivInt (ivNth (List.getD a (↑i:Int).toNat []) (0:Nat)))),.imm (.int IntKind.i32 (ivInt (ivNth (List.getD a (↑i:Int).toNat []) ((0:Nat) + 1))))],.imm (.sl (2:Nat) b),.imm (.int .i64 (↑i:Int)),AV.elv [IV.int .i64 (ivInt (ivNth (List.getD b (↑i:Int).toNat []) (0:Nat))),IV.int IntKind.i32 (ivInt (ivNth (List.getD b (↑i:Int).toNat []) ((0:Nat) + 1)))],.agg [.imm (.int .i64 (ivInt (ivNth (List.getD b (↑i:Int).toNat []) (0:Nat)))),.imm (.int IntKind.i32 (ivInt (ivNth (List.getD b (↑i:Int).toNat []) ((0:Nat) + 1))))],.imm (.bool !(ivInt (ivNth (List.getD a (↑i:Int).toNat []) (0:Nat)) == ivInt (ivNth (List.getD b
 (↑i:Int).toNat []) (0:Nat)) && (ivInt (ivNth (List.getD a (↑i:Int).toNat []) ((0:Nat) + 1)) == ivInt (ivNth (List.getD b (↑i:Int).toNat []) ((0:Nat) + 1)) && true)))] [] (0:Nat) []))) (k (AX.exit (0:Nat)) (St.mk [.imm (.sl (2:Nat) a),.imm (.sl (2:Nat) b),.dead,.dead,.dead,.imm (.int .i64 (↑i:Int)),.dead,.dead,.dead,.dead,.dead,.imm (.int .i64 (↑i:Int)),.imm (.sl (2:Nat) a),.imm (.int .i64 (a.length:Int)),.imm (.bool (decide ((↑i:Int) < (a.length:Int)))),.dead,.dead,.dead,.dead,.dead,.dead,.dead,.dead,.dead,.dead,.dead] [] (0:Nat) []))):=by kernel_rfl
theorem f45_lp (a:List Bool) (b:List Bool) (i:Nat) (k:AX→St→Prop):evCode K0 (loopB (bodyOf Tryd.f45) (0:Nat)) (hA (oo a) (oo b) i) k = (brn (decide ((↑i:Int) < (a.length:Int))) ((0:Int)≤(↑i:Int)∧(↑i:Int) < (a.length:Int)∧(0:Int)≤(↑i:Int)∧(↑i:Int) < (b.length:Int)∧brn (!List.getD a (↑i:Int).toNat false == List.getD b (↑i:Int).toNat false) (k AX.ret (St.mk [.imm (.bools a),.imm (.bools b),.dead,.dead,.imm (.bool false),.imm (.int .i64 (↑i:Int)),.dead,.dead,.dead,.dead,.dead,.imm (.int .i64 (↑i:Int)),.imm (.bools a),.imm (.int .i64 (a.length:Int)),.imm (.bool (decide ((↑i:Int) < (a.length:Int)))),.dead,.dead,.imm (.bools a),.imm (.int .i64 (↑i:Int)),AV.elv [IV.bool (List.getD a (↑i:Int).toNat false)],.imm (.bool (List.getD a (↑i:Int).toNat false)),.imm (.bools b),.imm (.int .i64 (↑i:Int)),AV.elv [IV.bool (List.getD b (↑i:Int).toNat false)],.imm (.bool (List.getD b (↑i:Int).toNat false)),.imm (.bool !List.getD a (↑i:Int).toNat false == List.getD b (↑i:Int).toNat false)] [] (0:Nat) [])) (k AX.normal (St.mk [.imm (.bools a),.imm (.bools b),.dead,.dead,.dead,.imm (.int .i64
 (IntKind.wrap .i64 ((↑i:Int) + 1))),.dead,.dead,.dead,.dead,.dead,.imm (.int .i64 (↑i:Int)),.imm (.bools a),.imm (.int .i64 (a.length:Int)),.imm (.bool (decide ((↑i:Int) < (a.length:Int)))),.imm (.int .i64 (↑i:Int)),.imm (.int .i64 (IntKind.wrap .i64 ((↑i:Int) + 1))),.imm (.bools a),.imm (.int .i64 (↑i:Int)),AV.elv [IV.bool (List.getD a (↑i:Int).toNat false)],.imm (.bool (List.getD a (↑i:Int).toNat false)),.imm (.bools b),.imm (.int .i64 (↑i:Int)),AV.elv [IV.bool (List.getD b (↑i:Int).toNat false)],.imm (.bool (List.getD b (↑i:Int).toNat false)),.imm (.bool !List.getD a (↑i:Int).toNat false == List.getD b (↑i:Int).toNat false)] [] (0:Nat) []))) (k (AX.exit (0:Nat)) (St.mk [.imm (.bools a),.imm (.bools b),.dead,.dead,.dead,.imm (.int .i64 (↑i:Int)),.dead,.dead,.dead,.dead,.dead,.imm (.int .i64 (↑i:Int)),.imm (.bools a),.imm (.int .i64 (a.length:Int)),.imm (.bool (decide ((↑i:Int) < (a.length:Int)))),.dead,.dead,.dead,.dead,.dead,.dead,.dead,.dead,.dead,.dead,.dead] [] (0:Nat) []))):=by kernel_rfl
theorem f46_lp (a:List Int) (b:List Int) (n:Nat) (i:Nat) (k:AX→St→Prop):evCode K0 (loopB (bodyOf Tryd.f46) (0:Nat)) (hB (ii a) (ii b) n i) k = (brn (decide ((↑i:Int) < (↑n:Int))) ((0:Int)≤(↑i:Int)∧(↑i:Int) < (a.length:Int)∧(0:Int)≤(↑i:Int)∧(↑i:Int) < (b.length:Int)∧brn (List.getD a (↑i:Int).toNat (0:Int) != List.getD b (↑i:Int).toNat (0:Int)) (k AX.ret (St.mk [.imm (.ints IntKind.i64 a),.imm (.ints IntKind.i64 b),.dead,.dead,.imm (.bool false),.imm (.int .i64 (↑i:Int)),.dead,.dead,.dead,.dead,.dead,.dead,.imm (.int .i64 (↑n:Int)),.imm (.int .i64 (↑i:Int)),.imm (.bool (decide ((↑i:Int) < (↑n:Int)))),.imm (.int .i64 (↑i:Int)),.imm (.ints IntKind.i64 a),.imm (.int .i64 (↑i:Int)),AV.elv [IV.int .i64 (List.getD a (↑i:Int).toNat (0:Int))],.imm (.int .i64 (List.getD a (↑i:Int).toNat (0:Int))),.imm (.ints IntKind.i64 b),.imm (.int .i64 (↑i:Int)),AV.elv [IV.int .i64 (List.getD b (↑i:Int).toNat (0:Int))],.imm (.int .i64 (List.getD b (↑i:Int).toNat (0:Int))),.imm (.bool (List.getD a (↑i:Int).toNat (0:Int) != List.getD b (↑i:Int).toNat (0:Int))),.dead] [] (0:Nat) [])) (k
 AX.normal (St.mk [.imm (.ints IntKind.i64 a),.imm (.ints IntKind.i64 b),.dead,.dead,.dead,.imm (.int .i64 (↑i:Int)),.dead,.dead,.dead,.dead,.dead,.dead,.imm (.int .i64 (↑n:Int)),.imm (.int .i64 (IntKind.wrap .i64 ((↑i:Int) + 1))),.imm (.bool (decide ((↑i:Int) < (↑n:Int)))),.imm (.int .i64 (↑i:Int)),.imm (.ints IntKind.i64 a),.imm (.int .i64 (↑i:Int)),AV.elv [IV.int .i64 (List.getD a (↑i:Int).toNat (0:Int))],.imm (.int .i64 (List.getD a (↑i:Int).toNat (0:Int))),.imm (.ints IntKind.i64 b),.imm (.int .i64 (↑i:Int)),AV.elv [IV.int .i64 (List.getD b (↑i:Int).toNat (0:Int))],.imm (.int .i64 (List.getD b (↑i:Int).toNat (0:Int))),.imm (.bool (List.getD a (↑i:Int).toNat (0:Int) != List.getD b (↑i:Int).toNat (0:Int))),.imm (.int .i64 (IntKind.wrap .i64 ((↑i:Int) + 1)))] [] (0:Nat) []))) (k (AX.exit (0:Nat)) (St.mk [.imm (.ints IntKind.i64 a),.imm (.ints IntKind.i64 b),.dead,.dead,.dead,.dead,.dead,.dead,.dead,.dead,.dead,.dead,.imm (.int .i64 (↑n:Int)),.imm (.int .i64 (↑i:Int)),.imm (.bool (decide ((↑i:Int) < (↑n:Int)))),.dead,.dead,.dead,.dead,.dead,.dead,.dead,.dead,.dead,.dead,.dead] []
 (0:Nat) []))):=by kernel_rfl
theorem f47_lp (a:List UInt8) (b:List UInt8) (n:Nat) (i:Nat) (k:AX→St→Prop):evCode K0 (loopB (bodyOf Tryd.f47) (0:Nat)) (hB (by' a) (by' b) n i) k = (brn (decide ((↑i:Int) < (↑n:Int))) ((0:Int)≤(↑i:Int)∧(↑i:Int) < (a.length:Int)∧(0:Int)≤(↑i:Int)∧(↑i:Int) < (b.length:Int)∧brn ((↑(UInt8.toNat (List.getD a (↑i:Int).toNat (0:UInt8))):Int) != (↑(UInt8.toNat (List.getD b (↑i:Int).toNat (0:UInt8))):Int)) (k AX.ret (St.mk [.imm (.bytes a),.imm (.bytes b),.dead,.dead,.imm (.bool false),.imm (.int .i64 (↑i:Int)),.dead,.dead,.dead,.dead,.dead,.dead,.imm (.int .i64 (↑n:Int)),.imm (.int .i64 (↑i:Int)),.imm (.bool (decide ((↑i:Int) < (↑n:Int)))),.imm (.int .i64 (↑i:Int)),.imm (.bytes a),.imm (.int .i64 (↑i:Int)),AV.elv [IV.int .u8 (↑(UInt8.toNat (List.getD a (↑i:Int).toNat (0:UInt8))):Int)],.imm (.int .u8 (↑(UInt8.toNat (List.getD a (↑i:Int).toNat (0:UInt8))):Int)),.imm (.bytes b),.imm (.int .i64 (↑i:Int)),AV.elv [IV.int .u8 (↑(UInt8.toNat (List.getD b (↑i:Int).toNat (0:UInt8))):Int)],.imm (.int .u8 (↑(UInt8.toNat (List.getD b (↑i:Int).toNat (0:UInt8))):Int)),.imm (.bool
 ((↑(UInt8.toNat (List.getD a (↑i:Int).toNat (0:UInt8))):Int) != (↑(UInt8.toNat (List.getD b (↑i:Int).toNat (0:UInt8))):Int))),.dead] [] (0:Nat) [])) (k AX.normal (St.mk [.imm (.bytes a),.imm (.bytes b),.dead,.dead,.dead,.imm (.int .i64 (↑i:Int)),.dead,.dead,.dead,.dead,.dead,.dead,.imm (.int .i64 (↑n:Int)),.imm (.int .i64 (IntKind.wrap .i64 ((↑i:Int) + 1))),.imm (.bool (decide ((↑i:Int) < (↑n:Int)))),.imm (.int .i64 (↑i:Int)),.imm (.bytes a),.imm (.int .i64 (↑i:Int)),AV.elv [IV.int .u8 (↑(UInt8.toNat (List.getD a (↑i:Int).toNat (0:UInt8))):Int)],.imm (.int .u8 (↑(UInt8.toNat (List.getD a (↑i:Int).toNat (0:UInt8))):Int)),.imm (.bytes b),.imm (.int .i64 (↑i:Int)),AV.elv [IV.int .u8 (↑(UInt8.toNat (List.getD b (↑i:Int).toNat (0:UInt8))):Int)],.imm (.int .u8 (↑(UInt8.toNat (List.getD b (↑i:Int).toNat (0:UInt8))):Int)),.imm (.bool ((↑(UInt8.toNat (List.getD a (↑i:Int).toNat (0:UInt8))):Int) != (↑(UInt8.toNat (List.getD b (↑i:Int).toNat (0:UInt8))):Int))),.imm (.int .i64 (IntKind.wrap .i64 ((↑i:Int) + 1)))] [] (0:Nat) []))) (k (AX.exit (0:Nat)) (St.mk [.imm (.bytes a),.imm (.bytes b),.dead,
 .dead,.dead,.dead,.dead,.dead,.dead,.dead,.dead,.dead,.imm (.int .i64 (↑n:Int)),.imm (.int .i64 (↑i:Int)),.imm (.bool (decide ((↑i:Int) < (↑n:Int)))),.dead,.dead,.dead,.dead,.dead,.dead,.dead,.dead,.dead,.dead,.dead] [] (0:Nat) []))):=by kernel_rfl
theorem f48_lp (a:List (List IV)) (b:List (List IV)) (n:Nat) (i:Nat) (k:AX→St→Prop):evCode K0 (loopB (bodyOf Tryd.f48) (0:Nat)) (hB (tl' a) (tl' b) n i) k = (brn (decide ((↑i:Int) < (↑n:Int))) ((0:Int)≤(↑i:Int)∧(↑i:Int) < (a.length:Int)∧kcells (List.getD a (↑i:Int).toNat []) (0:Nat) (lapp [CK.int IntKind.i32] (lapp [CK.bool] (lapp [CK.int IntKind.u8] []))) = List.getD a (↑i:Int).toNat []∧(0:Int)≤(↑i:Int)∧(↑i:Int) < (b.length:Int)∧kcells (List.getD b (↑i:Int).toNat []) (0:Nat) (lapp [CK.int IntKind.i32] (lapp [CK.bool] (lapp [CK.int IntKind.u8] []))) = List.getD b (↑i:Int).toNat []∧brn (!(ivInt (ivNth (List.getD a (↑i:Int).toNat []) (0:Nat)) == ivInt (ivNth (List.getD b (↑i:Int).toNat []) (0:Nat)) && (ivBool (ivNth (List.getD a (↑i:Int).toNat []) ((0:Nat) + 1)) == ivBool (ivNth (List.getD b (↑i:Int).toNat []) ((0:Nat) + 1)) && (ivInt (ivNth (List.getD a (↑i:Int).toNat []) ((0:Nat) + 1 + 1)) == ivInt (ivNth (List.getD b (↑i:Int).toNat []) ((0:Nat) + 1 + 1)) && true)))) (k AX.ret (St.mk [.imm (.sl (3:Nat) a),.imm (.sl (3:Nat) b),.dead,.dead,.imm (.bool false),.imm (.int .i64 (↑i:Int)),
 .dead,.dead,.dead,.dead,.dead,.dead,.imm (.int .i64 (↑n:Int)),.imm (.int .i64 (↑i:Int)),.imm (.bool (decide ((↑i:Int) < (↑n:Int)))),.imm (.int .i64 (↑i:Int)),.imm (.sl (3:Nat) a),.imm (.int .i64 (↑i:Int)),AV.elv [IV.int IntKind.i32 (ivInt (ivNth (List.getD a (↑i:Int).toNat []) (0:Nat))),IV.bool (ivBool (ivNth (List.getD a (↑i:Int).toNat []) ((0:Nat) + 1))),IV.int .u8 (ivInt (ivNth (List.getD a (↑i:Int).toNat []) ((0:Nat) + 1 + 1)))],.agg [.imm (.int IntKind.i32 (ivInt (ivNth (List.getD a (↑i:Int).toNat []) (0:Nat)))),.imm (.bool (ivBool (ivNth (List.getD a (↑i:Int).toNat []) ((0:Nat) + 1)))),.imm (.int .u8 (ivInt (ivNth (List.getD a (↑i:Int).toNat []) ((0:Nat) + 1 + 1))))],.imm (.sl (3:Nat) b),.imm (.int .i64 (↑i:Int)),AV.elv [IV.int IntKind.i32 (ivInt (ivNth (List.getD b (↑i:Int).toNat []) (0:Nat))),IV.bool (ivBool (ivNth (List.getD b (↑i:Int).toNat []) ((0:Nat) + 1))),IV.int .u8 (ivInt (ivNth (List.getD b (↑i:Int).toNat []) ((0:Nat) + 1 + 1)))],.agg [.imm (.int IntKind.i32 (ivInt (ivNth (List.getD b (↑i:Int).toNat []) (0:Nat)))),.imm (.bool (ivBool (ivNth (List.getD b (↑i:Int).toNat []) ((0:Nat)
 + 1)))),.imm (.int .u8 (ivInt (ivNth (List.getD b (↑i:Int).toNat []) ((0:Nat) + 1 + 1))))],.imm (.bool !(ivInt (ivNth (List.getD a (↑i:Int).toNat []) (0:Nat)) == ivInt (ivNth (List.getD b (↑i:Int).toNat []) (0:Nat)) && (ivBool (ivNth (List.getD a (↑i:Int).toNat []) ((0:Nat) + 1)) == ivBool (ivNth (List.getD b (↑i:Int).toNat []) ((0:Nat) + 1)) && (ivInt (ivNth (List.getD a (↑i:Int).toNat []) ((0:Nat) + 1 + 1)) == ivInt (ivNth (List.getD b (↑i:Int).toNat []) ((0:Nat) + 1 + 1)) && true)))),.dead] [] (0:Nat) [])) (k AX.normal (St.mk [.imm (.sl (3:Nat) a),.imm (.sl (3:Nat) b),.dead,.dead,.dead,.imm (.int .i64 (↑i:Int)),.dead,.dead,.dead,.dead,.dead,.dead,.imm (.int .i64 (↑n:Int)),.imm (.int .i64 (IntKind.wrap .i64 ((↑i:Int) + 1))),.imm (.bool (decide ((↑i:Int) < (↑n:Int)))),.imm (.int .i64 (↑i:Int)),.imm (.sl (3:Nat) a),.imm (.int .i64 (↑i:Int)),AV.elv [IV.int IntKind.i32 (ivInt (ivNth (List.getD a (↑i:Int).toNat []) (0:Nat))),IV.bool (ivBool (ivNth (List.getD a (↑i:Int).toNat []) ((0:Nat) + 1))),IV.int .u8 (ivInt (ivNth (List.getD a (↑i:Int).toNat []) ((0:Nat) + 1 + 1)))],.agg [.imm (.int IntKind.i32
 (ivInt (ivNth (List.getD a (↑i:Int).toNat []) (0:Nat)))),.imm (.bool (ivBool (ivNth (List.getD a (↑i:Int).toNat []) ((0:Nat) + 1)))),.imm (.int .u8 (ivInt (ivNth (List.getD a (↑i:Int).toNat []) ((0:Nat) + 1 + 1))))],.imm (.sl (3:Nat) b),.imm (.int .i64 (↑i:Int)),AV.elv [IV.int IntKind.i32 (ivInt (ivNth (List.getD b (↑i:Int).toNat []) (0:Nat))),IV.bool (ivBool (ivNth (List.getD b (↑i:Int).toNat []) ((0:Nat) + 1))),IV.int .u8 (ivInt (ivNth (List.getD b (↑i:Int).toNat []) ((0:Nat) + 1 + 1)))],.agg [.imm (.int IntKind.i32 (ivInt (ivNth (List.getD b (↑i:Int).toNat []) (0:Nat)))),.imm (.bool (ivBool (ivNth (List.getD b (↑i:Int).toNat []) ((0:Nat) + 1)))),.imm (.int .u8 (ivInt (ivNth (List.getD b (↑i:Int).toNat []) ((0:Nat) + 1 + 1))))],.imm (.bool !(ivInt (ivNth (List.getD a (↑i:Int).toNat []) (0:Nat)) == ivInt (ivNth (List.getD b (↑i:Int).toNat []) (0:Nat)) && (ivBool (ivNth (List.getD a (↑i:Int).toNat []) ((0:Nat) + 1)) == ivBool (ivNth (List.getD b (↑i:Int).toNat []) ((0:Nat) + 1)) && (ivInt (ivNth (List.getD a (↑i:Int).toNat []) ((0:Nat) + 1 + 1)) == ivInt (ivNth (List.getD b (↑i:Int).toNat []) ((0:Nat) + 1 +
 1)) && true)))),.imm (.int .i64 (IntKind.wrap .i64 ((↑i:Int) + 1)))] [] (0:Nat) []))) (k (AX.exit (0:Nat)) (St.mk [.imm (.sl (3:Nat) a),.imm (.sl (3:Nat) b),.dead,.dead,.dead,.dead,.dead,.dead,.dead,.dead,.dead,.dead,.imm (.int .i64 (↑n:Int)),.imm (.int .i64 (↑i:Int)),.imm (.bool (decide ((↑i:Int) < (↑n:Int)))),.dead,.dead,.dead,.dead,.dead,.dead,.dead,.dead,.dead,.dead,.dead] [] (0:Nat) []))):=by kernel_rfl
theorem f49_lp (a:List (List IV)) (b:List (List IV)) (n:Nat) (i:Nat) (k:AX→St→Prop):evCode K0 (loopB (bodyOf Tryd.f49) (0:Nat)) (hB (ll a) (ll b) n i) k = (brn (decide ((↑i:Int) < (↑n:Int))) ((0:Int)≤(↑i:Int)∧(↑i:Int) < (a.length:Int)∧kcells (List.getD a (↑i:Int).toNat []) (0:Nat) (lapp [CK.int IntKind.i64] (lapp [CK.int IntKind.i32] [])) = List.getD a (↑i:Int).toNat []∧(0:Int)≤(↑i:Int)∧(↑i:Int) < (b.length:Int)∧kcells (List.getD b (↑i:Int).toNat []) (0:Nat) (lapp [CK.int IntKind.i64] (lapp [CK.int IntKind.i32] [])) = List.getD b (↑i:Int).toNat []∧brn (!(ivInt (ivNth (List.getD a (↑i:Int).toNat []) (0:Nat)) == ivInt (ivNth (List.getD b (↑i:Int).toNat []) (0:Nat)) && (ivInt (ivNth (List.getD a (↑i:Int).toNat []) ((0:Nat) + 1)) == ivInt (ivNth (List.getD b (↑i:Int).toNat []) ((0:Nat) + 1)) && true))) (k AX.ret (St.mk [.imm (.sl (2:Nat) a),.imm (.sl (2:Nat) b),.dead,.dead,.imm (.bool false),.imm (.int .i64 (↑i:Int)),.dead,.dead,.dead,.dead,.dead,.dead,.imm (.int .i64 (↑n:Int)),.imm (.int .i64 (↑i:Int)),.imm (.bool (decide ((↑i:Int) < (↑n:Int)))),.imm (.int .i64 (↑i:Int)),
 .imm (.sl (2:Nat) a),.imm (.int .i64 (↑i:Int)),AV.elv [IV.int .i64 (ivInt (ivNth (List.getD a (↑i:Int).toNat []) (0:Nat))),IV.int IntKind.i32 (ivInt (ivNth (List.getD a (↑i:Int).toNat []) ((0:Nat) + 1)))],.agg [.imm (.int .i64 (ivInt (ivNth (List.getD a (↑i:Int).toNat []) (0:Nat)))),.imm (.int IntKind.i32 (ivInt (ivNth (List.getD a (↑i:Int).toNat []) ((0:Nat) + 1))))],.imm (.sl (2:Nat) b),.imm (.int .i64 (↑i:Int)),AV.elv [IV.int .i64 (ivInt (ivNth (List.getD b (↑i:Int).toNat []) (0:Nat))),IV.int IntKind.i32 (ivInt (ivNth (List.getD b (↑i:Int).toNat []) ((0:Nat) + 1)))],.agg [.imm (.int .i64 (ivInt (ivNth (List.getD b (↑i:Int).toNat []) (0:Nat)))),.imm (.int IntKind.i32 (ivInt (ivNth (List.getD b (↑i:Int).toNat []) ((0:Nat) + 1))))],.imm (.bool !(ivInt (ivNth (List.getD a (↑i:Int).toNat []) (0:Nat)) == ivInt (ivNth (List.getD b (↑i:Int).toNat []) (0:Nat)) && (ivInt (ivNth (List.getD a (↑i:Int).toNat []) ((0:Nat) + 1)) == ivInt (ivNth (List.getD b (↑i:Int).toNat []) ((0:Nat) + 1)) && true))),.dead] [] (0:Nat) [])) (k AX.normal (St.mk [.imm (.sl (2:Nat) a),.imm (.sl (2:Nat) b),.dead,.dead,.dead,.imm (.int
 .i64 (↑i:Int)),.dead,.dead,.dead,.dead,.dead,.dead,.imm (.int .i64 (↑n:Int)),.imm (.int .i64 (IntKind.wrap .i64 ((↑i:Int) + 1))),.imm (.bool (decide ((↑i:Int) < (↑n:Int)))),.imm (.int .i64 (↑i:Int)),.imm (.sl (2:Nat) a),.imm (.int .i64 (↑i:Int)),AV.elv [IV.int .i64 (ivInt (ivNth (List.getD a (↑i:Int).toNat []) (0:Nat))),IV.int IntKind.i32 (ivInt (ivNth (List.getD a (↑i:Int).toNat []) ((0:Nat) + 1)))],.agg [.imm (.int .i64 (ivInt (ivNth (List.getD a (↑i:Int).toNat []) (0:Nat)))),.imm (.int IntKind.i32 (ivInt (ivNth (List.getD a (↑i:Int).toNat []) ((0:Nat) + 1))))],.imm (.sl (2:Nat) b),.imm (.int .i64 (↑i:Int)),AV.elv [IV.int .i64 (ivInt (ivNth (List.getD b (↑i:Int).toNat []) (0:Nat))),IV.int IntKind.i32 (ivInt (ivNth (List.getD b (↑i:Int).toNat []) ((0:Nat) + 1)))],.agg [.imm (.int .i64 (ivInt (ivNth (List.getD b (↑i:Int).toNat []) (0:Nat)))),.imm (.int IntKind.i32 (ivInt (ivNth (List.getD b (↑i:Int).toNat []) ((0:Nat) + 1))))],.imm (.bool !(ivInt (ivNth (List.getD a (↑i:Int).toNat []) (0:Nat)) == ivInt (ivNth (List.getD b (↑i:Int).toNat []) (0:Nat)) && (ivInt (ivNth (List.getD a (↑i:Int).toNat [])
 ((0:Nat) + 1)) == ivInt (ivNth (List.getD b (↑i:Int).toNat []) ((0:Nat) + 1)) && true))),.imm (.int .i64 (IntKind.wrap .i64 ((↑i:Int) + 1)))] [] (0:Nat) []))) (k (AX.exit (0:Nat)) (St.mk [.imm (.sl (2:Nat) a),.imm (.sl (2:Nat) b),.dead,.dead,.dead,.dead,.dead,.dead,.dead,.dead,.dead,.dead,.imm (.int .i64 (↑n:Int)),.imm (.int .i64 (↑i:Int)),.imm (.bool (decide ((↑i:Int) < (↑n:Int)))),.dead,.dead,.dead,.dead,.dead,.dead,.dead,.dead,.dead,.dead,.dead] [] (0:Nat) []))):=by kernel_rfl
theorem f50_lp (a:List Bool) (b:List Bool) (n:Nat) (i:Nat) (k:AX→St→Prop):evCode K0 (loopB (bodyOf Tryd.f50) (0:Nat)) (hB (oo a) (oo b) n i) k = (brn (decide ((↑i:Int) < (↑n:Int))) ((0:Int)≤(↑i:Int)∧(↑i:Int) < (a.length:Int)∧(0:Int)≤(↑i:Int)∧(↑i:Int) < (b.length:Int)∧brn (!List.getD a (↑i:Int).toNat false == List.getD b (↑i:Int).toNat false) (k AX.ret (St.mk [.imm (.bools a),.imm (.bools b),.dead,.dead,.imm (.bool false),.imm (.int .i64 (↑i:Int)),.dead,.dead,.dead,.dead,.dead,.dead,.imm (.int .i64 (↑n:Int)),.imm (.int .i64 (↑i:Int)),.imm (.bool (decide ((↑i:Int) < (↑n:Int)))),.imm (.int .i64 (↑i:Int)),.imm (.bools a),.imm (.int .i64 (↑i:Int)),AV.elv [IV.bool (List.getD a (↑i:Int).toNat false)],.imm (.bool (List.getD a (↑i:Int).toNat false)),.imm (.bools b),.imm (.int .i64 (↑i:Int)),AV.elv [IV.bool (List.getD b (↑i:Int).toNat false)],.imm (.bool (List.getD b (↑i:Int).toNat false)),.imm (.bool !List.getD a (↑i:Int).toNat false == List.getD b (↑i:Int).toNat false),.dead] [] (0:Nat) [])) (k AX.normal (St.mk [.imm (.bools a),.imm (.bools b),.dead,.dead,.dead,.imm (.int .i64
 (↑i:Int)),.dead,.dead,.dead,.dead,.dead,.dead,.imm (.int .i64 (↑n:Int)),.imm (.int .i64 (IntKind.wrap .i64 ((↑i:Int) + 1))),.imm (.bool (decide ((↑i:Int) < (↑n:Int)))),.imm (.int .i64 (↑i:Int)),.imm (.bools a),.imm (.int .i64 (↑i:Int)),AV.elv [IV.bool (List.getD a (↑i:Int).toNat false)],.imm (.bool (List.getD a (↑i:Int).toNat false)),.imm (.bools b),.imm (.int .i64 (↑i:Int)),AV.elv [IV.bool (List.getD b (↑i:Int).toNat false)],.imm (.bool (List.getD b (↑i:Int).toNat false)),.imm (.bool !List.getD a (↑i:Int).toNat false == List.getD b (↑i:Int).toNat false),.imm (.int .i64 (IntKind.wrap .i64 ((↑i:Int) + 1)))] [] (0:Nat) []))) (k (AX.exit (0:Nat)) (St.mk [.imm (.bools a),.imm (.bools b),.dead,.dead,.dead,.dead,.dead,.dead,.dead,.dead,.dead,.dead,.imm (.int .i64 (↑n:Int)),.imm (.int .i64 (↑i:Int)),.imm (.bool (decide ((↑i:Int) < (↑n:Int)))),.dead,.dead,.dead,.dead,.dead,.dead,.dead,.dead,.dead,.dead,.dead] [] (0:Nat) []))):=by kernel_rfl
theorem f33_lp (b:List UInt8) (s:Int) (l:List Int) (i:Int) (k:AX→St→Prop):evCode K0 (loopB (bodyOf Tryd.f33) (0:Nat)) (h33 b s l i) k = (brn (decide (IntKind.wrap .i64 (i + s)≤(b.length:Int))) ((b.length:Int)≤big∧(0:Int)≤i∧i≤big∧(1:Int)≤s∧s≤8∧(l.length + List.length [sgnN s.toNat (uintP b i.toNat s.toNat)]) * 8≤140737488355328∧l.length + List.length [sgnN s.toNat (uintP b i.toNat s.toNat)]≤140737488355328∧k AX.normal (St.mk [.imm (.bytes b),.imm (.int .i64 s),.dead,.dead,.dead,AV.row (0:Nat) (1:Nat),.imm (.int .i64 (IntKind.wrap .i64 (i + s))),.imm (.int .i64 (sgnN s.toNat (uintP b i.toNat s.toNat))),.imm (.bool (okR b i.toNat s.toNat)),.imm (.int .i64 i),.imm (.int .i64 s),.imm (.int .i64 (IntKind.wrap .i64 (i + s))),.imm (.bytes b),.imm (.int .i64 (b.length:Int)),.imm (.bool (decide (IntKind.wrap .i64 (i + s)≤(b.length:Int)))),.imm (.int .i64 i),.imm (.int .i64 s),.imm (.int .i64 (IntKind.wrap .i64 (i + s))),.tup [.imm (.int .i64 (sgnN s.toNat (uintP b i.toNat s.toNat))),.imm (.bool (okR b i.toNat s.toNat))],.imm (.bytes b),.imm (.int .i64 i),.imm (.int .i64 s),.tup [.imm (.int .i64 (sgnN
 s.toNat (uintP b i.toNat s.toNat))),.imm (.bool (okR b i.toNat s.toNat))],.imm (.int .i64 (sgnN s.toNat (uintP b i.toNat s.toNat))),.imm (.bool (okR b i.toNat s.toNat)),AV.row (0:Nat) (0:Nat),.imm (.int .i64 (sgnN s.toNat (uintP b i.toNat s.toNat))),.full (IV.ints IntKind.i64 [sgnN s.toNat (uintP b i.toNat s.toNat)]),AV.row (0:Nat) (1:Nat),.dead] [(0,Ob.mk true 1 (AObj.row (IV.ints IntKind.i64 (l ++ [sgnN s.toNat (uintP b i.toNat s.toNat)]))))] (1:Nat) [])) (k (AX.exit (0:Nat)) (St.mk [.imm (.bytes b),.imm (.int .i64 s),.dead,.dead,.dead,AV.row (0:Nat) (0:Nat),.imm (.int .i64 i),.dead,.dead,.imm (.int .i64 i),.imm (.int .i64 s),.imm (.int .i64 (IntKind.wrap .i64 (i + s))),.imm (.bytes b),.imm (.int .i64 (b.length:Int)),.imm (.bool (decide (IntKind.wrap .i64 (i + s)≤(b.length:Int)))),.dead,.dead,.dead,.dead,.dead,.dead,.dead,.dead,.dead,.dead,.dead,.dead,.dead,.dead,.dead] [(0,Ob.mk true 0 (AObj.row (IV.ints IntKind.i64 l)))] (1:Nat) []))):=by kernel_rfl
theorem f38_lp (b:List UInt8) (s:Int) (l:List Int) (i:Nat) (k:AX→St→Prop):evCode K0 (loopB (bodyOf Tryd.f38) (0:Nat)) (h38 b s l i) k = (s≠0∧brn (decide ((↑i:Int) < IntKind.wrap .i64 (Int.tdiv (b.length:Int) s))) ((0:Int)≤IntKind.wrap .i64 ((↑i:Int) * s)∧IntKind.wrap .i64 ((↑i:Int) * s)≤IntKind.wrap .i64 (IntKind.wrap .i64 ((↑i:Int) + 1) * s)∧IntKind.wrap .i64 (IntKind.wrap .i64 ((↑i:Int) + 1) * s)≤(b.length:Int)∧(↑(List.take ((IntKind.wrap .i64 (IntKind.wrap .i64 ((↑i:Int) + 1) * s)).toNat - (IntKind.wrap .i64 ((↑i:Int) * s)).toNat) (List.drop (IntKind.wrap .i64 ((↑i:Int) * s)).toNat b)).length:Int)≤big∧(0:Int)≤0∧(0:Int)≤big∧(1:Int)≤s∧s≤8∧(l.length + List.length [sgnN s.toNat (uintP (List.take ((IntKind.wrap .i64 (IntKind.wrap .i64 ((↑i:Int) + 1) * s)).toNat - (IntKind.wrap .i64 ((↑i:Int) * s)).toNat) (List.drop (IntKind.wrap .i64 ((↑i:Int) * s)).toNat b)) (0:Int).toNat s.toNat)]) * 8≤140737488355328∧l.length + List.length [sgnN s.toNat (uintP (List.take ((IntKind.wrap .i64 (IntKind.wrap .i64 ((↑i:Int) + 1) * s)).toNat - (IntKind.wrap .i64 ((↑i:Int) * s)).toNat) (List.drop
 (IntKind.wrap .i64 ((↑i:Int) * s)).toNat b)) (0:Int).toNat s.toNat)]≤140737488355328∧k AX.normal (St.mk [.imm (.bytes b),.imm (.int .i64 s),.dead,.dead,.dead,AV.row (0:Nat) (1:Nat),.imm (.int .i64 (IntKind.wrap .i64 ((↑i:Int) + 1))),.imm (.int .i64 (sgnN s.toNat (uintP (List.take ((IntKind.wrap .i64 (IntKind.wrap .i64 ((↑i:Int) + 1) * s)).toNat - (IntKind.wrap .i64 ((↑i:Int) * s)).toNat) (List.drop (IntKind.wrap .i64 ((↑i:Int) * s)).toNat b)) (0:Int).toNat s.toNat))),.imm (.bool (okR (List.take ((IntKind.wrap .i64 (IntKind.wrap .i64 ((↑i:Int) + 1) * s)).toNat - (IntKind.wrap .i64 ((↑i:Int) * s)).toNat) (List.drop (IntKind.wrap .i64 ((↑i:Int) * s)).toNat b)) (0:Int).toNat s.toNat)),.imm (.int .i64 (↑i:Int)),.imm (.bytes b),.imm (.int .i64 (b.length:Int)),.imm (.int .i64 s),.imm (.int .i64 (IntKind.wrap .i64 (Int.tdiv (b.length:Int) s))),.imm (.bool (decide ((↑i:Int) < IntKind.wrap .i64 (Int.tdiv (b.length:Int) s)))),.imm (.int .i64 (↑i:Int)),.imm (.int .i64 (IntKind.wrap .i64 ((↑i:Int) + 1))),.tup [.imm (.int .i64 (sgnN s.toNat (uintP (List.take ((IntKind.wrap .i64 (IntKind.wrap .i64 ((↑i:Int) + 1) * s)).toNat -
 (IntKind.wrap .i64 ((↑i:Int) * s)).toNat) (List.drop (IntKind.wrap .i64 ((↑i:Int) * s)).toNat b)) (0:Int).toNat s.toNat))),.imm (.bool (okR (List.take ((IntKind.wrap .i64 (IntKind.wrap .i64 ((↑i:Int) + 1) * s)).toNat - (IntKind.wrap .i64 ((↑i:Int) * s)).toNat) (List.drop (IntKind.wrap .i64 ((↑i:Int) * s)).toNat b)) (0:Int).toNat s.toNat))],.imm (.bytes b),.imm (.int .i64 (↑i:Int)),.imm (.int .i64 s),.imm (.int .i64 (IntKind.wrap .i64 ((↑i:Int) * s))),.imm (.int .i64 (↑i:Int)),.imm (.int .i64 (IntKind.wrap .i64 ((↑i:Int) + 1))),.imm (.int .i64 s),.imm (.int .i64 (IntKind.wrap .i64 (IntKind.wrap .i64 ((↑i:Int) + 1) * s))),.imm (.bytes (List.take ((IntKind.wrap .i64 (IntKind.wrap .i64 ((↑i:Int) + 1) * s)).toNat - (IntKind.wrap .i64 ((↑i:Int) * s)).toNat) (List.drop (IntKind.wrap .i64 ((↑i:Int) * s)).toNat b))),.imm (.int .i64 s),.tup [.imm (.int .i64 (sgnN s.toNat (uintP (List.take ((IntKind.wrap .i64 (IntKind.wrap .i64 ((↑i:Int) + 1) * s)).toNat - (IntKind.wrap .i64 ((↑i:Int) * s)).toNat) (List.drop (IntKind.wrap .i64 ((↑i:Int) * s)).toNat b)) (0:Int).toNat s.toNat))),.imm (.bool (okR (List.take ((IntKind.wrap .i64 (IntKind.wrap .i64
 ((↑i:Int) + 1) * s)).toNat - (IntKind.wrap .i64 ((↑i:Int) * s)).toNat) (List.drop (IntKind.wrap .i64 ((↑i:Int) * s)).toNat b)) (0:Int).toNat s.toNat))],.imm (.int .i64 (sgnN s.toNat (uintP (List.take ((IntKind.wrap .i64 (IntKind.wrap .i64 ((↑i:Int) + 1) * s)).toNat - (IntKind.wrap .i64 ((↑i:Int) * s)).toNat) (List.drop (IntKind.wrap .i64 ((↑i:Int) * s)).toNat b)) (0:Int).toNat s.toNat))),.imm (.bool (okR (List.take ((IntKind.wrap .i64 (IntKind.wrap .i64 ((↑i:Int) + 1) * s)).toNat - (IntKind.wrap .i64 ((↑i:Int) * s)).toNat) (List.drop (IntKind.wrap .i64 ((↑i:Int) * s)).toNat b)) (0:Int).toNat s.toNat)),AV.row (0:Nat) (0:Nat),.imm (.int .i64 (sgnN s.toNat (uintP (List.take ((IntKind.wrap .i64 (IntKind.wrap .i64 ((↑i:Int) + 1) * s)).toNat - (IntKind.wrap .i64 ((↑i:Int) * s)).toNat) (List.drop (IntKind.wrap .i64 ((↑i:Int) * s)).toNat b)) (0:Int).toNat s.toNat))),.full (IV.ints IntKind.i64 [sgnN s.toNat (uintP (List.take ((IntKind.wrap .i64 (IntKind.wrap .i64 ((↑i:Int) + 1) * s)).toNat - (IntKind.wrap .i64 ((↑i:Int) * s)).toNat) (List.drop (IntKind.wrap .i64 ((↑i:Int) * s)).toNat b)) (0:Int).toNat s.toNat)]),AV.row (0:Nat) (1:Nat),
 .dead] [(0,Ob.mk true 1 (AObj.row (IV.ints IntKind.i64 (l ++ [sgnN s.toNat (uintP (List.take ((IntKind.wrap .i64 (IntKind.wrap .i64 ((↑i:Int) + 1) * s)).toNat - (IntKind.wrap .i64 ((↑i:Int) * s)).toNat) (List.drop (IntKind.wrap .i64 ((↑i:Int) * s)).toNat b)) (0:Int).toNat s.toNat)]))))] (1:Nat) [])) (k (AX.exit (0:Nat)) (St.mk [.imm (.bytes b),.imm (.int .i64 s),.dead,.dead,.dead,AV.row (0:Nat) (0:Nat),.imm (.int .i64 (↑i:Int)),.dead,.dead,.imm (.int .i64 (↑i:Int)),.imm (.bytes b),.imm (.int .i64 (b.length:Int)),.imm (.int .i64 s),.imm (.int .i64 (IntKind.wrap .i64 (Int.tdiv (b.length:Int) s))),.imm (.bool (decide ((↑i:Int) < IntKind.wrap .i64 (Int.tdiv (b.length:Int) s)))),.dead,.dead,.dead,.dead,.dead,.dead,.dead,.dead,.dead,.dead,.dead,.dead,.dead,.dead,.dead,.dead,.dead,.dead,.dead,.dead,.dead] [(0,Ob.mk true 0 (AObj.row (IV.ints IntKind.i64 l)))] (1:Nat) []))):=by kernel_rfl
theorem f34_lp (b:List UInt8) (s:Int) (l:List Lp) (i:Int) (k:AX→St→Prop):evCode K0 (loopB (bodyOf Tryd.f34) (0:Nat)) (h34 b s l i) k = (brn (decide (IntKind.wrap .i64 (IntKind.wrap .i64 (i + s) + 4)≤(b.length:Int))) ((b.length:Int)≤big∧(0:Int)≤i∧i≤big∧(1:Int)≤s∧s≤8∧(b.length:Int)≤big∧(0:Int)≤IntKind.wrap .i64 (i + s)∧IntKind.wrap .i64 (i + s)≤big∧(1:Int)≤4∧(4:Int)≤8∧((List.map cellsL l).length + List.length [[IV.int .i64 (sgnN s.toNat (uintP b i.toNat s.toNat)),IV.int IntKind.i32 (IntKind.wrap IntKind.i32 (sgnN (4:Int).toNat (uintP b (IntKind.wrap .i64 (i + s)).toNat (4:Int).toNat)))]]) * 16≤140737488355328∧(List.map cellsL l).length + List.length [[IV.int .i64 (sgnN s.toNat (uintP b i.toNat s.toNat)),IV.int IntKind.i32 (IntKind.wrap IntKind.i32 (sgnN (4:Int).toNat (uintP b (IntKind.wrap .i64 (i + s)).toNat (4:Int).toNat)))]]≤140737488355328∧k AX.normal (St.mk [.imm (.bytes b),.imm (.int .i64 s),.dead,.dead,.dead,AV.row (0:Nat) (1:Nat),.imm (.int .i64 (IntKind.wrap .i64 (i + IntKind.wrap .i64 (s + 4)))),.imm (.int .i64 (sgnN s.toNat (uintP b i.toNat s.toNat))),.imm (.bool (okR b
 i.toNat s.toNat)),.imm (.int .i64 (sgnN (4:Int).toNat (uintP b (IntKind.wrap .i64 (i + s)).toNat (4:Int).toNat))),.imm (.bool (okR b (IntKind.wrap .i64 (i + s)).toNat (4:Int).toNat)),.imm (.int .i64 i),.imm (.int .i64 s),.imm (.int .i64 (IntKind.wrap .i64 (i + s))),.imm (.int .i64 (IntKind.wrap .i64 (IntKind.wrap .i64 (i + s) + 4))),.imm (.bytes b),.imm (.int .i64 (b.length:Int)),.imm (.bool (decide (IntKind.wrap .i64 (IntKind.wrap .i64 (i + s) + 4)≤(b.length:Int)))),.imm (.int .i64 i),.imm (.int .i64 s),.imm (.int .i64 (IntKind.wrap .i64 (s + 4))),.imm (.int .i64 (IntKind.wrap .i64 (i + IntKind.wrap .i64 (s + 4)))),.tup [.imm (.int .i64 (sgnN s.toNat (uintP b i.toNat s.toNat))),.imm (.bool (okR b i.toNat s.toNat))],.imm (.bytes b),.imm (.int .i64 i),.imm (.int .i64 s),.tup [.imm (.int .i64 (sgnN s.toNat (uintP b i.toNat s.toNat))),.imm (.bool (okR b i.toNat s.toNat))],.imm (.int .i64 (sgnN s.toNat (uintP b i.toNat s.toNat))),.imm (.bool (okR b i.toNat s.toNat)),.tup [.imm (.int .i64 (sgnN (4:Int).toNat (uintP b (IntKind.wrap .i64 (i + s)).toNat (4:Int).toNat))),.imm (.bool (okR b (IntKind.wrap .i64 (i + s)).toNat (4:Int).toNat))],.imm
 (.bytes b),.imm (.int .i64 i),.imm (.int .i64 s),.imm (.int .i64 (IntKind.wrap .i64 (i + s))),.tup [.imm (.int .i64 (sgnN (4:Int).toNat (uintP b (IntKind.wrap .i64 (i + s)).toNat (4:Int).toNat))),.imm (.bool (okR b (IntKind.wrap .i64 (i + s)).toNat (4:Int).toNat))],.imm (.int .i64 (sgnN (4:Int).toNat (uintP b (IntKind.wrap .i64 (i + s)).toNat (4:Int).toNat))),.imm (.bool (okR b (IntKind.wrap .i64 (i + s)).toNat (4:Int).toNat)),AV.row (0:Nat) (0:Nat),.imm (.int .i64 (sgnN s.toNat (uintP b i.toNat s.toNat))),.imm (.int .i64 (sgnN (4:Int).toNat (uintP b (IntKind.wrap .i64 (i + s)).toNat (4:Int).toNat))),.imm (.int IntKind.i32 (IntKind.wrap IntKind.i32 (sgnN (4:Int).toNat (uintP b (IntKind.wrap .i64 (i + s)).toNat (4:Int).toNat)))),.agg [.imm (.int .i64 (sgnN s.toNat (uintP b i.toNat s.toNat))),.imm (.int IntKind.i32 (IntKind.wrap IntKind.i32 (sgnN (4:Int).toNat (uintP b (IntKind.wrap .i64 (i + s)).toNat (4:Int).toNat))))],.full (IV.sl (2:Nat) [[IV.int .i64 (sgnN s.toNat (uintP b i.toNat s.toNat)),IV.int IntKind.i32 (IntKind.wrap IntKind.i32 (sgnN (4:Int).toNat (uintP b (IntKind.wrap .i64 (i + s)).toNat (4:Int).toNat)))]]),AV.row (0 :
 Nat) (1:Nat),.dead] [(0,Ob.mk true 1 (AObj.row (IV.sl (2:Nat) (List.map cellsL l ++ [[IV.int .i64 (sgnN s.toNat (uintP b i.toNat s.toNat)),IV.int IntKind.i32 (IntKind.wrap IntKind.i32 (sgnN (4:Int).toNat (uintP b (IntKind.wrap .i64 (i + s)).toNat (4:Int).toNat)))]]))))] (1:Nat) [])) (k (AX.exit (0:Nat)) (St.mk [.imm (.bytes b),.imm (.int .i64 s),.dead,.dead,.dead,AV.row (0:Nat) (0:Nat),.imm (.int .i64 i),.dead,.dead,.dead,.dead,.imm (.int .i64 i),.imm (.int .i64 s),.imm (.int .i64 (IntKind.wrap .i64 (i + s))),.imm (.int .i64 (IntKind.wrap .i64 (IntKind.wrap .i64 (i + s) + 4))),.imm (.bytes b),.imm (.int .i64 (b.length:Int)),.imm (.bool (decide (IntKind.wrap .i64 (IntKind.wrap .i64 (i + s) + 4)≤(b.length:Int)))),.dead,.dead,.dead,.dead,.dead,.dead,.dead,.dead,.dead,.dead,.dead,.dead,.dead,.dead,.dead,.dead,.dead,.dead,.dead,.dead,.dead,.dead,.dead,.dead,.dead,.dead,.dead] [(0,Ob.mk true 0 (AObj.row (IV.sl (2:Nat) (List.map cellsL l))))] (1:Nat) []))):=by kernel_rfl
theorem f40_lp (b:List UInt8) (s:Int) (n:Int) (l:List Lp) (i:Nat) (k:AX→St→Prop):evCode K0 (loopB (bodyOf Tryd.f40) (0:Nat)) (h40 b s n l i) k = (n≠0∧brn (decide ((↑i:Int) < IntKind.wrap .i64 (Int.tdiv (b.length:Int) n))) ((b.length:Int)≤big∧(0:Int)≤IntKind.wrap .i64 ((↑i:Int) * n)∧IntKind.wrap .i64 ((↑i:Int) * n)≤big∧(1:Int)≤s∧s≤8∧(b.length:Int)≤big∧(0:Int)≤IntKind.wrap .i64 (IntKind.wrap .i64 ((↑i:Int) * n) + s)∧IntKind.wrap .i64 (IntKind.wrap .i64 ((↑i:Int) * n) + s)≤big∧(1:Int)≤4∧(4:Int)≤8∧((List.map cellsL l).length + List.length [[IV.int .i64 (sgnN s.toNat (uintP b (IntKind.wrap .i64 ((↑i:Int) * n)).toNat s.toNat)),IV.int IntKind.i32 (IntKind.wrap IntKind.i32 (sgnN (4:Int).toNat (uintP b (IntKind.wrap .i64 (IntKind.wrap .i64 ((↑i:Int) * n) + s)).toNat (4:Int).toNat)))]]) * 16≤140737488355328∧(List.map cellsL l).length + List.length [[IV.int .i64 (sgnN s.toNat (uintP b (IntKind.wrap .i64 ((↑i:Int) * n)).toNat s.toNat)),IV.int IntKind.i32 (IntKind.wrap IntKind.i32 (sgnN (4:Int).toNat (uintP b (IntKind.wrap .i64 (IntKind.wrap .i64 ((↑i:Int) * n) + s)).toNat (4 :
 Int).toNat)))]]≤140737488355328∧k AX.normal (St.mk [.imm (.bytes b),.imm (.int .i64 s),.dead,.dead,.dead,AV.row (0:Nat) (1:Nat),.imm (.int .i64 n),.imm (.int .i64 (IntKind.wrap .i64 ((↑i:Int) + 1))),.imm (.int .i64 (sgnN s.toNat (uintP b (IntKind.wrap .i64 ((↑i:Int) * n)).toNat s.toNat))),.imm (.bool (okR b (IntKind.wrap .i64 ((↑i:Int) * n)).toNat s.toNat)),.imm (.int .i64 (sgnN (4:Int).toNat (uintP b (IntKind.wrap .i64 (IntKind.wrap .i64 ((↑i:Int) * n) + s)).toNat (4:Int).toNat))),.imm (.bool (okR b (IntKind.wrap .i64 (IntKind.wrap .i64 ((↑i:Int) * n) + s)).toNat (4:Int).toNat)),.dead,.dead,.imm (.int .i64 (↑i:Int)),.imm (.bytes b),.imm (.int .i64 (b.length:Int)),.imm (.int .i64 n),.imm (.int .i64 (IntKind.wrap .i64 (Int.tdiv (b.length:Int) n))),.imm (.bool (decide ((↑i:Int) < IntKind.wrap .i64 (Int.tdiv (b.length:Int) n)))),.imm (.int .i64 (↑i:Int)),.imm (.int .i64 (IntKind.wrap .i64 ((↑i:Int) + 1))),.tup [.imm (.int .i64 (sgnN s.toNat (uintP b (IntKind.wrap .i64 ((↑i:Int) * n)).toNat s.toNat))),.imm (.bool (okR b (IntKind.wrap .i64 ((↑i:Int) * n)).toNat s.toNat))],.imm (.bytes b),.imm (.int .i64 (↑i:Int)),.imm
 (.int .i64 n),.imm (.int .i64 (IntKind.wrap .i64 ((↑i:Int) * n))),.imm (.int .i64 s),.tup [.imm (.int .i64 (sgnN s.toNat (uintP b (IntKind.wrap .i64 ((↑i:Int) * n)).toNat s.toNat))),.imm (.bool (okR b (IntKind.wrap .i64 ((↑i:Int) * n)).toNat s.toNat))],.imm (.int .i64 (sgnN s.toNat (uintP b (IntKind.wrap .i64 ((↑i:Int) * n)).toNat s.toNat))),.imm (.bool (okR b (IntKind.wrap .i64 ((↑i:Int) * n)).toNat s.toNat)),.tup [.imm (.int .i64 (sgnN (4:Int).toNat (uintP b (IntKind.wrap .i64 (IntKind.wrap .i64 ((↑i:Int) * n) + s)).toNat (4:Int).toNat))),.imm (.bool (okR b (IntKind.wrap .i64 (IntKind.wrap .i64 ((↑i:Int) * n) + s)).toNat (4:Int).toNat))],.imm (.bytes b),.imm (.int .i64 (↑i:Int)),.imm (.int .i64 n),.imm (.int .i64 (IntKind.wrap .i64 ((↑i:Int) * n))),.imm (.int .i64 s),.imm (.int .i64 (IntKind.wrap .i64 (IntKind.wrap .i64 ((↑i:Int) * n) + s))),.tup [.imm (.int .i64 (sgnN (4:Int).toNat (uintP b (IntKind.wrap .i64 (IntKind.wrap .i64 ((↑i:Int) * n) + s)).toNat (4:Int).toNat))),.imm (.bool (okR b (IntKind.wrap .i64 (IntKind.wrap .i64 ((↑i:Int) * n) + s)).toNat (4:Int).toNat))],.imm (.int .i64 (sgnN (4:Int).toNat (uintP b
 (IntKind.wrap .i64 (IntKind.wrap .i64 ((↑i:Int) * n) + s)).toNat (4:Int).toNat))),.imm (.bool (okR b (IntKind.wrap .i64 (IntKind.wrap .i64 ((↑i:Int) * n) + s)).toNat (4:Int).toNat)),AV.row (0:Nat) (0:Nat),.imm (.int .i64 (sgnN s.toNat (uintP b (IntKind.wrap .i64 ((↑i:Int) * n)).toNat s.toNat))),.imm (.int .i64 (sgnN (4:Int).toNat (uintP b (IntKind.wrap .i64 (IntKind.wrap .i64 ((↑i:Int) * n) + s)).toNat (4:Int).toNat))),.imm (.int IntKind.i32 (IntKind.wrap IntKind.i32 (sgnN (4:Int).toNat (uintP b (IntKind.wrap .i64 (IntKind.wrap .i64 ((↑i:Int) * n) + s)).toNat (4:Int).toNat)))),.agg [.imm (.int .i64 (sgnN s.toNat (uintP b (IntKind.wrap .i64 ((↑i:Int) * n)).toNat s.toNat))),.imm (.int IntKind.i32 (IntKind.wrap IntKind.i32 (sgnN (4:Int).toNat (uintP b (IntKind.wrap .i64 (IntKind.wrap .i64 ((↑i:Int) * n) + s)).toNat (4:Int).toNat))))],.full (IV.sl (2:Nat) [[IV.int .i64 (sgnN s.toNat (uintP b (IntKind.wrap .i64 ((↑i:Int) * n)).toNat s.toNat)),IV.int IntKind.i32 (IntKind.wrap IntKind.i32 (sgnN (4:Int).toNat (uintP b (IntKind.wrap .i64 (IntKind.wrap .i64 ((↑i:Int) * n) + s)).toNat (4:Int).toNat)))]]),AV.row (0:Nat) (1:Nat),.dead]
 [(0,Ob.mk true 1 (AObj.row (IV.sl (2:Nat) (List.map cellsL l ++ [[IV.int .i64 (sgnN s.toNat (uintP b (IntKind.wrap .i64 ((↑i:Int) * n)).toNat s.toNat)),IV.int IntKind.i32 (IntKind.wrap IntKind.i32 (sgnN (4:Int).toNat (uintP b (IntKind.wrap .i64 (IntKind.wrap .i64 ((↑i:Int) * n) + s)).toNat (4:Int).toNat)))]]))))] (1:Nat) [])) (k (AX.exit (0:Nat)) (St.mk [.imm (.bytes b),.imm (.int .i64 s),.dead,.dead,.dead,AV.row (0:Nat) (0:Nat),.imm (.int .i64 n),.imm (.int .i64 (↑i:Int)),.dead,.dead,.dead,.dead,.dead,.dead,.imm (.int .i64 (↑i:Int)),.imm (.bytes b),.imm (.int .i64 (b.length:Int)),.imm (.int .i64 n),.imm (.int .i64 (IntKind.wrap .i64 (Int.tdiv (b.length:Int) n))),.imm (.bool (decide ((↑i:Int) < IntKind.wrap .i64 (Int.tdiv (b.length:Int) n)))),.dead,.dead,.dead,.dead,.dead,.dead,.dead,.dead,.dead,.dead,.dead,.dead,.dead,.dead,.dead,.dead,.dead,.dead,.dead,.dead,.dead,.dead,.dead,.dead,.dead,.dead,.dead,.dead,.dead] [(0,Ob.mk true 0 (AObj.row (IV.sl (2:Nat) (List.map cellsL l))))] (1:Nat) []))):=by kernel_rfl
theorem f32_lp (b:List UInt8) (l:List Bool) (i:Nat) (k:AX→St→Prop):evCode K0 (loopB (bodyOf Tryd.f32) (0:Nat)) (h32 b l i) k = (brn (decide ((↑i:Int) < (b.length:Int))) ((0:Int)≤(↑i:Int)∧(↑i:Int) < (b.length:Int)∧brn (decide (IntKind.wrap .i64 (↑(UInt8.toNat (List.getD b (↑i:Int).toNat (0:UInt8))):Int)≥2)) (k AX.ret (St.mk [.dead,.dead,.full (IV.bools []),.imm (.bool false),AV.row (0:Nat) (0:Nat),.dead,.imm (.int .u8 (↑(UInt8.toNat (List.getD b (↑i:Int).toNat (0:UInt8))):Int)),.imm (.bytes b),.imm (.int .i64 (b.length:Int)),.imm (.int .i64 (↑i:Int)),.imm (.bool (decide ((↑i:Int) < (b.length:Int)))),AV.elv [IV.int .u8 (↑(UInt8.toNat (List.getD b (↑i:Int).toNat (0:UInt8))):Int)],.imm (.int .u8 (↑(UInt8.toNat (List.getD b (↑i:Int).toNat (0:UInt8))):Int)),.imm (.int .u8 (↑(UInt8.toNat (List.getD b (↑i:Int).toNat (0:UInt8))):Int)),.imm (.int .i64 (IntKind.wrap .i64 (↑(UInt8.toNat (List.getD b (↑i:Int).toNat (0:UInt8))):Int))),.imm (.bool (decide (IntKind.wrap .i64 (↑(UInt8.toNat (List.getD b (↑i:Int).toNat (0:UInt8))):Int)≥2))),.dead,.dead,.dead,.dead,.dead,.dead,.dead,
 .dead] [(0,Ob.mk true 0 (AObj.row (IV.bools l)))] (1:Nat) [])) ((0:Int)≤(↑(UInt8.toNat (List.getD b (↑i:Int).toNat (0:UInt8))):Int)∧(↑(UInt8.toNat (List.getD b (↑i:Int).toNat (0:UInt8))):Int) < 2∧((↑(UInt8.toNat (List.getD b (↑i:Int).toNat (0:UInt8))):Int) = 0→(l.length + List.length [false]) * 1≤140737488355328∧l.length + List.length [false]≤140737488355328∧k AX.normal (St.mk [.dead,.dead,.dead,.dead,AV.row (0:Nat) (1:Nat),.dead,.imm (.int .u8 (↑(UInt8.toNat (List.getD b (↑i:Int).toNat (0:UInt8))):Int)),.imm (.bytes b),.imm (.int .i64 (b.length:Int)),.imm (.int .i64 (IntKind.wrap .i64 ((↑i:Int) + 1))),.imm (.bool (decide ((↑i:Int) < (b.length:Int)))),AV.elv [IV.int .u8 (↑(UInt8.toNat (List.getD b (↑i:Int).toNat (0:UInt8))):Int)],.imm (.int .u8 (↑(UInt8.toNat (List.getD b (↑i:Int).toNat (0:UInt8))):Int)),.imm (.int .u8 (↑(UInt8.toNat (List.getD b (↑i:Int).toNat (0:UInt8))):Int)),.imm (.int .i64 (IntKind.wrap .i64 (↑(UInt8.toNat (List.getD b (↑i:Int).toNat (0:UInt8))):Int))),.imm (.bool (decide (IntKind.wrap .i64 (↑(UInt8.toNat (List.getD b (↑i:Int).toNat (0:UInt8))):Int)≥2))),
 AV.row (0:Nat) (0:Nat),.imm (.int .u8 (↑(UInt8.toNat (List.getD b (↑i:Int).toNat (0:UInt8))):Int)),AV.gptr 0 0,.imm (.bool false),.full (IV.bools [false]),AV.row (0:Nat) (1:Nat),.imm (.int .i64 (IntKind.wrap .i64 ((↑i:Int) + 1))),.dead] [(0,Ob.mk true 1 (AObj.row (IV.bools (l ++ [false]))))] (1:Nat) []))∧((↑(UInt8.toNat (List.getD b (↑i:Int).toNat (0:UInt8))):Int) = 1→(l.length + List.length [true]) * 1≤140737488355328∧l.length + List.length [true]≤140737488355328∧k AX.normal (St.mk [.dead,.dead,.dead,.dead,AV.row (0:Nat) (1:Nat),.dead,.imm (.int .u8 (↑(UInt8.toNat (List.getD b (↑i:Int).toNat (0:UInt8))):Int)),.imm (.bytes b),.imm (.int .i64 (b.length:Int)),.imm (.int .i64 (IntKind.wrap .i64 ((↑i:Int) + 1))),.imm (.bool (decide ((↑i:Int) < (b.length:Int)))),AV.elv [IV.int .u8 (↑(UInt8.toNat (List.getD b (↑i:Int).toNat (0:UInt8))):Int)],.imm (.int .u8 (↑(UInt8.toNat (List.getD b (↑i:Int).toNat (0:UInt8))):Int)),.imm (.int .u8 (↑(UInt8.toNat (List.getD b (↑i:Int).toNat (0:UInt8))):Int)),.imm (.int .i64 (IntKind.wrap .i64 (↑(UInt8.toNat (List.getD b (↑i:Int).toNat (0:UInt8))):Int))),
 .imm (.bool (decide (IntKind.wrap .i64 (↑(UInt8.toNat (List.getD b (↑i:Int).toNat (0:UInt8))):Int)≥2))),AV.row (0:Nat) (0:Nat),.imm (.int .u8 (↑(UInt8.toNat (List.getD b (↑i:Int).toNat (0:UInt8))):Int)),AV.gptr 0 1,.imm (.bool true),.full (IV.bools [true]),AV.row (0:Nat) (1:Nat),.imm (.int .i64 (IntKind.wrap .i64 ((↑i:Int) + 1))),.dead] [(0,Ob.mk true 1 (AObj.row (IV.bools (l ++ [true]))))] (1:Nat) [])))) (k (AX.exit (0:Nat)) (St.mk [.dead,.dead,.dead,.dead,AV.row (0:Nat) (0:Nat),.dead,.dead,.imm (.bytes b),.imm (.int .i64 (b.length:Int)),.imm (.int .i64 (↑i:Int)),.imm (.bool (decide ((↑i:Int) < (b.length:Int)))),.dead,.dead,.dead,.dead,.dead,.dead,.dead,.dead,.dead,.dead,.dead,.dead,.dead] [(0,Ob.mk true 0 (AObj.row (IV.bools l)))] (1:Nat) []))):=by kernel_rfl
theorem f41_lp (b:List UInt8) (l:List Bool) (i:Nat) (k:AX→St→Prop):evCode K0 (loopB (bodyOf Tryd.f41) (0:Nat)) (h41 b l i) k = (brn (decide ((↑i:Int) < (b.length:Int))) ((0:Int)≤(↑i:Int)∧(↑i:Int) < (b.length:Int)∧brn (decide ((↑(UInt8.toNat (List.getD b (↑i:Int).toNat (0:UInt8))):Int) > 1)) (k AX.ret (St.mk [.imm (.bytes b),.dead,.full (IV.bools []),.imm (.bool false),AV.row (0:Nat) (0:Nat),.imm (.int .i64 (↑i:Int)),.imm (.int .i64 (↑i:Int)),.imm (.bytes b),.imm (.int .i64 (b.length:Int)),.imm (.bool (decide ((↑i:Int) < (b.length:Int)))),.dead,.dead,.imm (.bytes b),.imm (.int .i64 (↑i:Int)),AV.elv [IV.int .u8 (↑(UInt8.toNat (List.getD b (↑i:Int).toNat (0:UInt8))):Int)],.imm (.int .u8 (↑(UInt8.toNat (List.getD b (↑i:Int).toNat (0:UInt8))):Int)),.imm (.bool (decide ((↑(UInt8.toNat (List.getD b (↑i:Int).toNat (0:UInt8))):Int) > 1))),.dead,.dead,.dead,.dead,.dead,.dead,.dead,.dead,.dead] [(0,Ob.mk true 0 (AObj.row (IV.bools l)))] (1:Nat) [])) ((0:Int)≤(↑i:Int)∧(↑i:Int) < (b.length:Int)∧(l.length + List.length [(↑(UInt8.toNat (List.getD b (↑i:Int).toNat (0:UInt8))) :
 Int) == 1]) * 1≤140737488355328∧l.length + List.length [(↑(UInt8.toNat (List.getD b (↑i:Int).toNat (0:UInt8))):Int) == 1]≤140737488355328∧k AX.normal (St.mk [.imm (.bytes b),.dead,.dead,.dead,AV.row (0:Nat) (1:Nat),.imm (.int .i64 (IntKind.wrap .i64 ((↑i:Int) + 1))),.imm (.int .i64 (↑i:Int)),.imm (.bytes b),.imm (.int .i64 (b.length:Int)),.imm (.bool (decide ((↑i:Int) < (b.length:Int)))),.imm (.int .i64 (↑i:Int)),.imm (.int .i64 (IntKind.wrap .i64 ((↑i:Int) + 1))),.imm (.bytes b),.imm (.int .i64 (↑i:Int)),AV.elv [IV.int .u8 (↑(UInt8.toNat (List.getD b (↑i:Int).toNat (0:UInt8))):Int)],.imm (.int .u8 (↑(UInt8.toNat (List.getD b (↑i:Int).toNat (0:UInt8))):Int)),.imm (.bool (decide ((↑(UInt8.toNat (List.getD b (↑i:Int).toNat (0:UInt8))):Int) > 1))),AV.row (0:Nat) (0:Nat),.imm (.bytes b),.imm (.int .i64 (↑i:Int)),AV.elv [IV.int .u8 (↑(UInt8.toNat (List.getD b (↑i:Int).toNat (0:UInt8))):Int)],.imm (.int .u8 (↑(UInt8.toNat (List.getD b (↑i:Int).toNat (0:UInt8))):Int)),.imm (.bool ((↑(UInt8.toNat (List.getD b (↑i:Int).toNat (0:UInt8))):Int) == 1)),.full (IV.bools [(↑(UInt8.toNat (List.getD b
 (↑i:Int).toNat (0:UInt8))):Int) == 1]),AV.row (0:Nat) (1:Nat),.dead] [(0,Ob.mk true 1 (AObj.row (IV.bools (l ++ [(↑(UInt8.toNat (List.getD b (↑i:Int).toNat (0:UInt8))):Int) == 1]))))] (1:Nat) []))) (k (AX.exit (0:Nat)) (St.mk [.imm (.bytes b),.dead,.dead,.dead,AV.row (0:Nat) (0:Nat),.imm (.int .i64 (↑i:Int)),.imm (.int .i64 (↑i:Int)),.imm (.bytes b),.imm (.int .i64 (b.length:Int)),.imm (.bool (decide ((↑i:Int) < (b.length:Int)))),.dead,.dead,.dead,.dead,.dead,.dead,.dead,.dead,.dead,.dead,.dead,.dead,.dead,.dead,.dead,.dead] [(0,Ob.mk true 0 (AObj.row (IV.bools l)))] (1:Nat) []))):=by kernel_rfl
theorem f54_lp (T:List Int) (s:Int) (l:List UInt8) (i:Nat) (k:AX→St→Prop):evCode K0 (loopB (bodyOf Tryd.f54) (0:Nat)) (h54 T s l i) k = (brn (decide ((↑i:Int) < (T.length:Int))) ((0:Int)≤(↑i:Int)∧(↑i:Int) < (T.length:Int)∧(↑([]:List UInt8).length:Int)≤1000000000000∧(0:Int)≤s∧s≤8∧(0:Int)≤IntKind.wrap IntKind.u64 (List.getD T (↑i:Int).toNat (0:Int))∧IntKind.wrap IntKind.u64 (List.getD T (↑i:Int).toNat (0:Int)) < 18446744073709551616∧(l.length + ([] ++ be s.toNat (IntKind.wrap IntKind.u64 (List.getD T (↑i:Int).toNat (0:Int))).toNat).length) * 1≤140737488355328∧l.length + ([] ++ be s.toNat (IntKind.wrap IntKind.u64 (List.getD T (↑i:Int).toNat (0:Int))).toNat).length≤140737488355328∧k AX.normal (St.mk [.dead,.imm (.int .i64 s),.dead,.dead,.dead,AV.row (0:Nat) (1:Nat),.dead,.imm (.int .i64 (List.getD T (↑i:Int).toNat (0:Int))),.dead,.dead,.dead,.dead,.dead,.imm (.ints IntKind.i64 T),.imm (.int .i64 (T.length:Int)),.imm (.int .i64 (IntKind.wrap .i64 ((↑i:Int) + 1))),.imm (.bool (decide ((↑i:Int) < (T.length:Int)))),AV.elv [IV.int .i64 (List.getD T (↑i:Int).toNat (0 :
 Int))],.imm (.int .i64 (List.getD T (↑i:Int).toNat (0:Int))),AV.row (0:Nat) (0:Nat),.imm (.int .i64 s),.imm (.int .i64 (List.getD T (↑i:Int).toNat (0:Int))),.imm (.int IntKind.u64 (IntKind.wrap IntKind.u64 (List.getD T (↑i:Int).toNat (0:Int)))),AV.row (1:Nat) (0:Nat),AV.row (0:Nat) (1:Nat),.imm (.int .i64 (IntKind.wrap .i64 ((↑i:Int) + 1))),.dead] [(0,Ob.mk true 1 (AObj.row (IV.bytes (l ++ ([] ++ be s.toNat (IntKind.wrap IntKind.u64 (List.getD T (↑i:Int).toNat (0:Int))).toNat))))),(1,Ob.mk true 0 (AObj.row (IV.bytes ([] ++ be s.toNat (IntKind.wrap IntKind.u64 (List.getD T (↑i:Int).toNat (0:Int))).toNat))))] (2:Nat) [])) (k (AX.exit (0:Nat)) (St.mk [.dead,.imm (.int .i64 s),.dead,.dead,.dead,AV.row (0:Nat) (0:Nat),.dead,.dead,.dead,.dead,.dead,.dead,.dead,.imm (.ints IntKind.i64 T),.imm (.int .i64 (T.length:Int)),.imm (.int .i64 (↑i:Int)),.imm (.bool (decide ((↑i:Int) < (T.length:Int)))),.dead,.dead,.dead,.dead,.dead,.dead,.dead,.dead,.dead,.dead] [(0,Ob.mk true 0 (AObj.row (IV.bytes l)))] (1:Nat) []))):=by kernel_rfl
theorem f58_lp (T:List Int) (s:Int) (l:List UInt8) (i:Nat) (k:AX→St→Prop):evCode K0 (loopB (bodyOf Tryd.f58) (0:Nat)) (h58 T s l i) k = (brn (decide ((↑i:Int) < (T.length:Int))) ((0:Int)≤(↑i:Int)∧(↑i:Int) < (T.length:Int)∧(l.length:Int)≤1000000000000∧(0:Int)≤s∧s≤8∧(0:Int)≤IntKind.wrap IntKind.u64 (List.getD T (↑i:Int).toNat (0:Int))∧IntKind.wrap IntKind.u64 (List.getD T (↑i:Int).toNat (0:Int)) < 18446744073709551616∧k AX.normal (St.mk [.imm (.ints IntKind.i64 T),.imm (.int .i64 s),.dead,.dead,.dead,AV.row (1:Nat) (0:Nat),.imm (.int .i64 (IntKind.wrap .i64 ((↑i:Int) + 1))),.imm (.int .i64 (↑i:Int)),.imm (.ints IntKind.i64 T),.imm (.int .i64 (T.length:Int)),.imm (.bool (decide ((↑i:Int) < (T.length:Int)))),.imm (.int .i64 (↑i:Int)),.imm (.int .i64 (IntKind.wrap .i64 ((↑i:Int) + 1))),AV.row (0:Nat) (0:Nat),.imm (.int .i64 s),.imm (.ints IntKind.i64 T),.imm (.int .i64 (↑i:Int)),AV.elv [IV.int .i64 (List.getD T (↑i:Int).toNat (0:Int))],.imm (.int .i64 (List.getD T (↑i:Int).toNat (0:Int))),.imm (.int IntKind.u64 (IntKind.wrap IntKind.u64 (List.getD T (↑i:Int).toNat (0 :
 Int)))),AV.row (1:Nat) (0:Nat),.dead] [(0,Ob.mk false 0 (AObj.row (IV.bytes l))),(1,Ob.mk true 0 (AObj.row (IV.bytes (l ++ be s.toNat (IntKind.wrap IntKind.u64 (List.getD T (↑i:Int).toNat (0:Int))).toNat))))] (2:Nat) [])) (k (AX.exit (0:Nat)) (St.mk [.imm (.ints IntKind.i64 T),.imm (.int .i64 s),.dead,.dead,.dead,AV.row (0:Nat) (0:Nat),.imm (.int .i64 (↑i:Int)),.imm (.int .i64 (↑i:Int)),.imm (.ints IntKind.i64 T),.imm (.int .i64 (T.length:Int)),.imm (.bool (decide ((↑i:Int) < (T.length:Int)))),.dead,.dead,.dead,.dead,.dead,.dead,.dead,.dead,.dead,.dead,.dead] [(0,Ob.mk true 0 (AObj.row (IV.bytes l)))] (1:Nat) []))):=by kernel_rfl
theorem f56_lp (xs:List (List IV)) (s:Int) (l:List UInt8) (i:Nat) (k:AX→St→Prop):evCode K0 (loopB (bodyOf Tryd.f56) (0:Nat)) (h56 xs s l i) k = (brn (decide ((↑i:Int) < (xs.length:Int))) ((0:Int)≤(↑i:Int)∧(↑i:Int) < (xs.length:Int)∧kcells (List.getD xs (↑i:Int).toNat []) (0:Nat) (lapp [CK.int IntKind.i64] (lapp [CK.int IntKind.i32] [])) = List.getD xs (↑i:Int).toNat []∧(l.length:Int)≤1000000000000∧(0:Int)≤s∧s≤8∧(0:Int)≤IntKind.wrap IntKind.u64 (ivInt (ivNth (List.getD xs (↑i:Int).toNat []) (0:Nat)))∧IntKind.wrap IntKind.u64 (ivInt (ivNth (List.getD xs (↑i:Int).toNat []) (0:Nat))) < 18446744073709551616∧(↑(l ++ be s.toNat (IntKind.wrap IntKind.u64 (ivInt (ivNth (List.getD xs (↑i:Int).toNat []) (0:Nat)))).toNat).length:Int)≤1000000000000∧(0:Int)≤4∧(4:Int)≤8∧(0:Int)≤IntKind.wrap IntKind.u64 (IntKind.wrap .i64 (ivInt (ivNth (List.getD xs (↑i:Int).toNat []) ((0:Nat) + 1))))∧IntKind.wrap IntKind.u64 (IntKind.wrap .i64 (ivInt (ivNth (List.getD xs (↑i:Int).toNat []) ((0:Nat) + 1)))) < 18446744073709551616∧k AX.normal (St.mk [.dead,.imm (.int .i64 s),.dead,.dead,.dead,AV.row
 (3:Nat) (0:Nat),.dead,.ptr 1 0,.imm (.sl (2:Nat) xs),.imm (.int .i64 (xs.length:Int)),.imm (.int .i64 (IntKind.wrap .i64 ((↑i:Int) + 1))),.imm (.bool (decide ((↑i:Int) < (xs.length:Int)))),AV.elv [IV.int .i64 (ivInt (ivNth (List.getD xs (↑i:Int).toNat []) (0:Nat))),IV.int IntKind.i32 (ivInt (ivNth (List.getD xs (↑i:Int).toNat []) ((0:Nat) + 1)))],.agg [.imm (.int .i64 (ivInt (ivNth (List.getD xs (↑i:Int).toNat []) (0:Nat)))),.imm (.int IntKind.i32 (ivInt (ivNth (List.getD xs (↑i:Int).toNat []) ((0:Nat) + 1))))],AV.row (0:Nat) (0:Nat),.imm (.int .i64 s),.ptr 1 0,.imm (.int .i64 (ivInt (ivNth (List.getD xs (↑i:Int).toNat []) (0:Nat)))),.imm (.int IntKind.u64 (IntKind.wrap IntKind.u64 (ivInt (ivNth (List.getD xs (↑i:Int).toNat []) (0:Nat))))),AV.row (2:Nat) (0:Nat),AV.row (2:Nat) (0:Nat),.ptr 1 1,.imm (.int IntKind.i32 (ivInt (ivNth (List.getD xs (↑i:Int).toNat []) ((0:Nat) + 1)))),.imm (.int .i64 (IntKind.wrap .i64 (ivInt (ivNth (List.getD xs (↑i:Int).toNat []) ((0:Nat) + 1))))),.imm (.int IntKind.u64 (IntKind.wrap IntKind.u64 (IntKind.wrap .i64 (ivInt (ivNth (List.getD xs (↑i:Int).toNat []) ((0:Nat) +
 1)))))),AV.row (3:Nat) (0:Nat),.imm (.int .i64 (IntKind.wrap .i64 ((↑i:Int) + 1))),.dead] [(0,Ob.mk false 0 (AObj.row (IV.bytes l))),(1,Ob.mk true 0 (AObj.cells [.imm (.int .i64 (ivInt (ivNth (List.getD xs (↑i:Int).toNat []) (0:Nat)))),.imm (.int IntKind.i32 (ivInt (ivNth (List.getD xs (↑i:Int).toNat []) ((0:Nat) + 1))))])),(2,Ob.mk false 0 (AObj.row (IV.bytes (l ++ be s.toNat (IntKind.wrap IntKind.u64 (ivInt (ivNth (List.getD xs (↑i:Int).toNat []) (0:Nat)))).toNat)))),(3,Ob.mk true 0 (AObj.row (IV.bytes (l ++ be s.toNat (IntKind.wrap IntKind.u64 (ivInt (ivNth (List.getD xs (↑i:Int).toNat []) (0:Nat)))).toNat ++ be (4:Int).toNat (IntKind.wrap IntKind.u64 (IntKind.wrap .i64 (ivInt (ivNth (List.getD xs (↑i:Int).toNat []) ((0:Nat) + 1))))).toNat))))] (4:Nat) [])) (k (AX.exit (0:Nat)) (St.mk [.dead,.imm (.int .i64 s),.dead,.dead,.dead,AV.row (0:Nat) (0:Nat),.dead,.dead,.imm (.sl (2:Nat) xs),.imm (.int .i64 (xs.length:Int)),.imm (.int .i64 (↑i:Int)),.imm (.bool (decide ((↑i:Int) < (xs.length:Int)))),.dead,.dead,.dead,.dead,.dead,.dead,.dead,.dead,.dead,.dead,.dead,.dead,.dead,.dead,.dead,.dead] [(0,Ob.mk
 true 0 (AObj.row (IV.bytes l)))] (1:Nat) []))):=by kernel_rfl
theorem f60_lp (xs:List (List IV)) (s:Int) (l:List UInt8) (i:Nat) (k:AX→St→Prop):evCode K0 (loopB (bodyOf Tryd.f60) (0:Nat)) (h60 xs s l i) k = (brn (decide ((↑i:Int) < (xs.length:Int))) ((0:Int)≤(↑i:Int)∧(↑i:Int) < (xs.length:Int)∧kcells (List.getD xs (↑i:Int).toNat []) (0:Nat) (lapp [CK.int IntKind.i64] (lapp [CK.int IntKind.i32] [])) = List.getD xs (↑i:Int).toNat []∧(l.length:Int)≤1000000000000∧(0:Int)≤s∧s≤8∧(0:Int)≤IntKind.wrap IntKind.u64 (ivInt (ivNth (List.getD xs (↑i:Int).toNat []) (0:Nat)))∧IntKind.wrap IntKind.u64 (ivInt (ivNth (List.getD xs (↑i:Int).toNat []) (0:Nat))) < 18446744073709551616∧(0:Int)≤(↑i:Int)∧(↑i:Int) < (xs.length:Int)∧kcells (List.getD xs (↑i:Int).toNat []) (0:Nat) (lapp [CK.int IntKind.i64] (lapp [CK.int IntKind.i32] [])) = List.getD xs (↑i:Int).toNat []∧(↑(l ++ be s.toNat (IntKind.wrap IntKind.u64 (ivInt (ivNth (List.getD xs (↑i:Int).toNat []) (0:Nat)))).toNat).length:Int)≤1000000000000∧(0:Int)≤4∧(4:Int)≤8∧(0:Int)≤IntKind.wrap IntKind.u64 (IntKind.wrap .i64 (ivInt (ivNth (List.getD xs (↑i:Int).toNat []) ((0:Nat) + 1)))) ∧
 IntKind.wrap IntKind.u64 (IntKind.wrap .i64 (ivInt (ivNth (List.getD xs (↑i:Int).toNat []) ((0:Nat) + 1)))) < 18446744073709551616∧k AX.normal (St.mk [.imm (.sl (2:Nat) xs),.imm (.int .i64 s),.dead,.dead,.dead,AV.row (2:Nat) (0:Nat),.imm (.int .i64 (IntKind.wrap .i64 ((↑i:Int) + 1))),.imm (.int .i64 (↑i:Int)),.imm (.sl (2:Nat) xs),.imm (.int .i64 (xs.length:Int)),.imm (.bool (decide ((↑i:Int) < (xs.length:Int)))),.imm (.int .i64 (↑i:Int)),.imm (.int .i64 (IntKind.wrap .i64 ((↑i:Int) + 1))),AV.row (0:Nat) (0:Nat),.imm (.int .i64 s),.imm (.sl (2:Nat) xs),.imm (.int .i64 (↑i:Int)),AV.elv [IV.int .i64 (ivInt (ivNth (List.getD xs (↑i:Int).toNat []) (0:Nat))),IV.int IntKind.i32 (ivInt (ivNth (List.getD xs (↑i:Int).toNat []) ((0:Nat) + 1)))],AV.elv [IV.int .i64 (ivInt (ivNth (List.getD xs (↑i:Int).toNat []) (0:Nat))),IV.int IntKind.i32 (ivInt (ivNth (List.getD xs (↑i:Int).toNat []) ((0:Nat) + 1)))],.imm (.int .i64 (ivInt (ivNth (List.getD xs (↑i:Int).toNat []) (0:Nat)))),.imm (.int IntKind.u64 (IntKind.wrap IntKind.u64 (ivInt (ivNth (List.getD xs (↑i:Int).toNat []) (0:Nat))))),AV.row (1:Nat) (0:Nat),
 AV.row (1:Nat) (0:Nat),.imm (.sl (2:Nat) xs),.imm (.int .i64 (↑i:Int)),AV.elv [IV.int .i64 (ivInt (ivNth (List.getD xs (↑i:Int).toNat []) (0:Nat))),IV.int IntKind.i32 (ivInt (ivNth (List.getD xs (↑i:Int).toNat []) ((0:Nat) + 1)))],AV.elv [IV.int IntKind.i32 (ivInt (ivNth (List.getD xs (↑i:Int).toNat []) ((0:Nat) + 1)))],.imm (.int IntKind.i32 (ivInt (ivNth (List.getD xs (↑i:Int).toNat []) ((0:Nat) + 1)))),.imm (.int .i64 (IntKind.wrap .i64 (ivInt (ivNth (List.getD xs (↑i:Int).toNat []) ((0:Nat) + 1))))),.imm (.int IntKind.u64 (IntKind.wrap IntKind.u64 (IntKind.wrap .i64 (ivInt (ivNth (List.getD xs (↑i:Int).toNat []) ((0:Nat) + 1)))))),AV.row (2:Nat) (0:Nat),.dead] [(0,Ob.mk false 0 (AObj.row (IV.bytes l))),(1,Ob.mk false 0 (AObj.row (IV.bytes (l ++ be s.toNat (IntKind.wrap IntKind.u64 (ivInt (ivNth (List.getD xs (↑i:Int).toNat []) (0:Nat)))).toNat)))),(2,Ob.mk true 0 (AObj.row (IV.bytes (l ++ be s.toNat (IntKind.wrap IntKind.u64 (ivInt (ivNth (List.getD xs (↑i:Int).toNat []) (0:Nat)))).toNat ++ be (4:Int).toNat (IntKind.wrap IntKind.u64 (IntKind.wrap .i64 (ivInt (ivNth (List.getD xs (↑i:Int).toNat []) ((0:Nat) +
 1))))).toNat))))] (3:Nat) [])) (k (AX.exit (0:Nat)) (St.mk [.imm (.sl (2:Nat) xs),.imm (.int .i64 s),.dead,.dead,.dead,AV.row (0:Nat) (0:Nat),.imm (.int .i64 (↑i:Int)),.imm (.int .i64 (↑i:Int)),.imm (.sl (2:Nat) xs),.imm (.int .i64 (xs.length:Int)),.imm (.bool (decide ((↑i:Int) < (xs.length:Int)))),.dead,.dead,.dead,.dead,.dead,.dead,.dead,.dead,.dead,.dead,.dead,.dead,.dead,.dead,.dead,.dead,.dead,.dead,.dead,.dead,.dead] [(0,Ob.mk true 0 (AObj.row (IV.bytes l)))] (1:Nat) []))):=by kernel_rfl
theorem f57_lp (l:List Bool) (v:List UInt8) (i:Nat) (k:AX→St→Prop):evCode K0 (loopB (bodyOf Tryd.f57) (0:Nat)) (h57 l v i) k = (brn (decide ((↑i:Int) < (l.length:Int))) ((0:Int)≤(↑i:Int)∧(↑i:Int) < (l.length:Int)∧brn (List.getD l (↑i:Int).toNat false) ((0:Int)≤(↑i:Int)∧(↑i:Int) < (v.length:Int)∧k AX.normal (St.mk [.dead,.dead,.dead,AV.row (0:Nat) (0:Nat),.imm (.int .i64 (↑i:Int)),.imm (.bool (List.getD l (↑i:Int).toNat false)),.dead,.dead,.dead,.imm (.bools l),.imm (.int .i64 (l.length:Int)),.imm (.int .i64 (IntKind.wrap .i64 ((↑i:Int) + 1))),.imm (.bool (decide ((↑i:Int) < (l.length:Int)))),.imm (.int .i64 (↑i:Int)),AV.elv [IV.bool (List.getD l (↑i:Int).toNat false)],.imm (.bool (List.getD l (↑i:Int).toNat false)),.imm (.bool (List.getD l (↑i:Int).toNat false)),AV.row (0:Nat) (0:Nat),.imm (.int .i64 (↑i:Int)),AV.elp (0:Nat) (0:Nat) (↑i:Int).toNat (0:Nat),.imm (.int .i64 (IntKind.wrap .i64 ((↑i:Int) + 1))),.dead] [(0,Ob.mk true 0 (AObj.row (IV.bytes (List.set v (↑i:Int).toNat (u8 (1:Int))))))] (1:Nat) [])) (k AX.normal (St.mk [.dead,.dead,.dead,AV.row (0:Nat) (0
 : Nat),.imm (.int .i64 (↑i:Int)),.imm (.bool (List.getD l (↑i:Int).toNat false)),.dead,.dead,.dead,.imm (.bools l),.imm (.int .i64 (l.length:Int)),.imm (.int .i64 (IntKind.wrap .i64 ((↑i:Int) + 1))),.imm (.bool (decide ((↑i:Int) < (l.length:Int)))),.imm (.int .i64 (↑i:Int)),AV.elv [IV.bool (List.getD l (↑i:Int).toNat false)],.imm (.bool (List.getD l (↑i:Int).toNat false)),.imm (.bool (List.getD l (↑i:Int).toNat false)),.dead,.dead,.dead,.imm (.int .i64 (IntKind.wrap .i64 ((↑i:Int) + 1))),.dead] [(0,Ob.mk true 0 (AObj.row (IV.bytes v)))] (1:Nat) []))) (k (AX.exit (0:Nat)) (St.mk [.dead,.dead,.dead,AV.row (0:Nat) (0:Nat),.dead,.dead,.dead,.dead,.dead,.imm (.bools l),.imm (.int .i64 (l.length:Int)),.imm (.int .i64 (↑i:Int)),.imm (.bool (decide ((↑i:Int) < (l.length:Int)))),.dead,.dead,.dead,.dead,.dead,.dead,.dead,.dead,.dead] [(0,Ob.mk true 0 (AObj.row (IV.bytes v)))] (1:Nat) []))):=by kernel_rfl
theorem f61_lp (l:List Bool) (v:List UInt8) (i:Nat) (k:AX→St→Prop):evCode K0 (loopB (bodyOf Tryd.f61) (0:Nat)) (h61 l v i) k = (brn (decide ((↑i:Int) < (l.length:Int))) ((0:Int)≤(↑i:Int)∧(↑i:Int) < (l.length:Int)∧brn (List.getD l (↑i:Int).toNat false) ((v.length + (List.map u8 [(1:Int)]).length) * 1≤140737488355328∧v.length + (List.map u8 [(1:Int)]).length≤140737488355328∧k AX.normal (St.mk [.imm (.bools l),.dead,.dead,AV.row (0:Nat) (1:Nat),.imm (.int .i64 (IntKind.wrap .i64 ((↑i:Int) + 1))),.imm (.int .i64 (↑i:Int)),.imm (.bools l),.imm (.int .i64 (l.length:Int)),.imm (.bool (decide ((↑i:Int) < (l.length:Int)))),.imm (.int .i64 (↑i:Int)),.imm (.int .i64 (IntKind.wrap .i64 ((↑i:Int) + 1))),.imm (.bools l),.imm (.int .i64 (↑i:Int)),AV.elv [IV.bool (List.getD l (↑i:Int).toNat false)],.imm (.bool (List.getD l (↑i:Int).toNat false)),AV.row (0:Nat) (0:Nat),.full (IV.bytes (List.map u8 [(1:Int)])),AV.row (0:Nat) (1:Nat),.dead,.dead,.dead,.dead] [(0,Ob.mk true 1 (AObj.row (IV.bytes (v ++ List.map u8 [(1:Int)]))))] (1:Nat) [])) ((v.length + (List.map u8 [(0:Int)]).length) * 1 ≤
 140737488355328∧v.length + (List.map u8 [(0:Int)]).length≤140737488355328∧k AX.normal (St.mk [.imm (.bools l),.dead,.dead,AV.row (0:Nat) (1:Nat),.imm (.int .i64 (IntKind.wrap .i64 ((↑i:Int) + 1))),.imm (.int .i64 (↑i:Int)),.imm (.bools l),.imm (.int .i64 (l.length:Int)),.imm (.bool (decide ((↑i:Int) < (l.length:Int)))),.imm (.int .i64 (↑i:Int)),.imm (.int .i64 (IntKind.wrap .i64 ((↑i:Int) + 1))),.imm (.bools l),.imm (.int .i64 (↑i:Int)),AV.elv [IV.bool (List.getD l (↑i:Int).toNat false)],.imm (.bool (List.getD l (↑i:Int).toNat false)),.dead,.dead,.dead,AV.row (0:Nat) (0:Nat),.full (IV.bytes (List.map u8 [(0:Int)])),AV.row (0:Nat) (1:Nat),.dead] [(0,Ob.mk true 1 (AObj.row (IV.bytes (v ++ List.map u8 [(0:Int)]))))] (1:Nat) []))) (k (AX.exit (0:Nat)) (St.mk [.imm (.bools l),.dead,.dead,AV.row (0:Nat) (0:Nat),.imm (.int .i64 (↑i:Int)),.imm (.int .i64 (↑i:Int)),.imm (.bools l),.imm (.int .i64 (l.length:Int)),.imm (.bool (decide ((↑i:Int) < (l.length:Int)))),.dead,.dead,.dead,.dead,.dead,.dead,.dead,.dead,.dead,.dead,.dead,.dead,.dead] [(0,Ob.mk true 0 (AObj.row (IV.bytes v)))] (1 :
 Nat) []))):=by kernel_rfl
theorem f52_lp (T:List Int) (n:Int) (i:Nat) (k:AX→St→Prop):evCode K1 (loopB (bodyOf Tryd.f52) (0:Nat)) (h52 T n i) k = (brn (decide ((↑i:Int) < (T.length:Int))) ((0:Int)≤(↑i:Int)∧(↑i:Int) < (T.length:Int)∧sz48 n∧brn (!fitsP (List.getD T (↑i:Int).toNat (0:Int)) n) (k AX.ret (St.mk [.imm (.ints IntKind.i64 T),.imm (.int .i64 n),.dead,.dead,.imm (.bool false),.imm (.int .i64 (↑i:Int)),.imm (.int .i64 (↑i:Int)),.imm (.ints IntKind.i64 T),.imm (.int .i64 (T.length:Int)),.imm (.bool (decide ((↑i:Int) < (T.length:Int)))),.dead,.dead,.imm (.ints IntKind.i64 T),.imm (.int .i64 (↑i:Int)),AV.elv [IV.int .i64 (List.getD T (↑i:Int).toNat (0:Int))],.imm (.int .i64 (List.getD T (↑i:Int).toNat (0:Int))),.imm (.int .i64 n),.imm (.bool (fitsP (List.getD T (↑i:Int).toNat (0:Int)) n)),.imm (.bool !fitsP (List.getD T (↑i:Int).toNat (0:Int)) n)] [] (0:Nat) [])) (k AX.normal (St.mk [.imm (.ints IntKind.i64 T),.imm (.int .i64 n),.dead,.dead,.dead,.imm (.int .i64 (IntKind.wrap .i64 ((↑i:Int) + 1))),.imm (.int .i64 (↑i:Int)),.imm (.ints IntKind.i64 T),.imm (.int .i64 (T.length:Int)),.imm (.bool (decide ((↑i
 : Int) < (T.length:Int)))),.imm (.int .i64 (↑i:Int)),.imm (.int .i64 (IntKind.wrap .i64 ((↑i:Int) + 1))),.imm (.ints IntKind.i64 T),.imm (.int .i64 (↑i:Int)),AV.elv [IV.int .i64 (List.getD T (↑i:Int).toNat (0:Int))],.imm (.int .i64 (List.getD T (↑i:Int).toNat (0:Int))),.imm (.int .i64 n),.imm (.bool (fitsP (List.getD T (↑i:Int).toNat (0:Int)) n)),.imm (.bool !fitsP (List.getD T (↑i:Int).toNat (0:Int)) n)] [] (0:Nat) []))) (k (AX.exit (0:Nat)) (St.mk [.imm (.ints IntKind.i64 T),.imm (.int .i64 n),.dead,.dead,.dead,.imm (.int .i64 (↑i:Int)),.imm (.int .i64 (↑i:Int)),.imm (.ints IntKind.i64 T),.imm (.int .i64 (T.length:Int)),.imm (.bool (decide ((↑i:Int) < (T.length:Int)))),.dead,.dead,.dead,.dead,.dead,.dead,.dead,.dead,.dead] [] (0:Nat) []))):=by kernel_rfl
theorem f37_lp (d:List UInt8) (p:Int) (e:Int) (a:Int) (n:Int) (l:List UInt8) (i:Nat) (k:AX→St→Prop):evCode K1 (loopB (bodyOf Tryd.f37) (0:Nat)) (h37 d p e a n l i) k = (brn (decide ((↑i:Int) < n)) ((0:Int)≤IntKind.wrap .i64 (p + (↑i:Int))∧IntKind.wrap .i64 (p + (↑i:Int)) < (d.length:Int)∧(l.length + (List.map u8 [(↑(UInt8.toNat (List.getD d (IntKind.wrap .i64 (p + (↑i:Int))).toNat (0:UInt8))):Int)]).length) * 1≤140737488355328∧l.length + (List.map u8 [(↑(UInt8.toNat (List.getD d (IntKind.wrap .i64 (p + (↑i:Int))).toNat (0:UInt8))):Int)]).length≤140737488355328∧k AX.normal (St.mk [.dead,.imm (.int .i64 n),.ptr 0 0,.dead,.dead,.ptr 1 0,AV.row (2:Nat) (1:Nat),.imm (.int .i64 (IntKind.wrap .i64 ((↑i:Int) + 1))),.dead,.dead,.dead,.dead,.dead,.dead,.dead,.dead,.dead,.dead,.dead,.dead,.dead,.dead,.dead,.dead,.dead,.dead,.dead,.dead,.dead,.imm (.int .i64 (↑i:Int)),.imm (.int .i64 n),.imm (.bool (decide ((↑i:Int) < n))),.imm (.int .i64 (↑i:Int)),.imm (.int .i64 (IntKind.wrap .i64 ((↑i:Int) + 1))),AV.row (2:Nat) (0:Nat),.ptr 0 0,.imm (.bytes d),.ptr 0 1,.imm (.int .i64 p),.imm
 (.int .i64 (↑i:Int)),.imm (.int .i64 (IntKind.wrap .i64 (p + (↑i:Int)))),AV.elv [IV.int .u8 (↑(UInt8.toNat (List.getD d (IntKind.wrap .i64 (p + (↑i:Int))).toNat (0:UInt8))):Int)],.imm (.int .u8 (↑(UInt8.toNat (List.getD d (IntKind.wrap .i64 (p + (↑i:Int))).toNat (0:UInt8))):Int)),.full (IV.bytes (List.map u8 [(↑(UInt8.toNat (List.getD d (IntKind.wrap .i64 (p + (↑i:Int))).toNat (0:UInt8))):Int)])),AV.row (2:Nat) (1:Nat),.dead,.dead,.dead,.dead,.dead,.dead,.dead] [(0,Ob.mk true 0 (AObj.cells [.imm (.bytes d),.imm (.int .i64 p),.imm (.int .i64 e),.imm (.int .i64 a)])),(1,Ob.mk true 0 (AObj.cells [.imm (.val (Value.slice none (0:Nat) (0:Nat))),.imm (.int .i64 0),.imm (.int .i64 0),.imm (.int .i64 0)])),(2,Ob.mk true 1 (AObj.row (IV.bytes (l ++ List.map u8 [(↑(UInt8.toNat (List.getD d (IntKind.wrap .i64 (p + (↑i:Int))).toNat (0:UInt8))):Int)]))))] (3:Nat) [])) (k (AX.exit (0:Nat)) (St.mk [.dead,.imm (.int .i64 n),.ptr 0 0,.dead,.dead,.ptr 1 0,AV.row (2:Nat) (0:Nat),.imm (.int .i64 (↑i:Int)),.dead,.dead,.dead,.dead,.dead,.dead,.dead,.dead,.dead,.dead,.dead,.dead,.dead,.dead,.dead,.dead,.dead,
 .dead,.dead,.dead,.dead,.imm (.int .i64 (↑i:Int)),.imm (.int .i64 n),.imm (.bool (decide ((↑i:Int) < n))),.dead,.dead,.dead,.dead,.dead,.dead,.dead,.dead,.dead,.dead,.dead,.dead,.dead,.dead,.dead,.dead,.dead,.dead,.dead,.dead] [(0,Ob.mk true 0 (AObj.cells [.imm (.bytes d),.imm (.int .i64 p),.imm (.int .i64 e),.imm (.int .i64 a)])),(1,Ob.mk true 0 (AObj.cells [.imm (.val (Value.slice none (0:Nat) (0:Nat))),.imm (.int .i64 0),.imm (.int .i64 0),.imm (.int .i64 0)])),(2,Ob.mk true 0 (AObj.row (IV.bytes l)))] (3:Nat) []))):=by kernel_rfl
end Z19
set_option maxRecDepth 100000
namespace Z19
open Go Go.AE Go.Proofs D6
attribute [local irreducible] loopK evCode evSpec loopB norm
def p0:Lp:=⟨0,0⟩
theorem okL_elim {xs:List (List IV)} (h:okL xs):∃ L:List Lp,xs = L.map cellsL∧lps xs = L∧∀ t ∈ L,okLp t:=⟨lps xs,h.1,rfl,h.2⟩
theorem getL {L:List Lp} {i:Nat} (h:i < L.length):(L.map cellsL).getD i [] = cellsL (L.getD i p0):=by
 simp only [List.getD_eq_getElem?_getD,List.getElem?_map,List.getElem?_eq_getElem h]
 rfl
theorem kL (t:Lp):kcells (cellsL t) 0 (lapp [CK.int .i64] (lapp [CK.int .i32] [])) = cellsL t:=rfl
theorem aL (t:Lp):ivInt (ivNth (cellsL t) 0) = t.a:=rfl
theorem cL (t:Lp):ivInt (ivNth (cellsL t) (0 + 1)) = t.c:=rfl
theorem inc {i:Nat} (h:i≤1000000000000):IntKind.wrap .i64 ((i:Int) + 1) = ((i + 1:Nat):Int):=by rw [wrap64 (by omega) (by omega)]; rfl
theorem incB {i:Nat} (h:i≤4611686018427387904):IntKind.wrap .i64 ((i:Int) + 1) = ((i + 1:Nat):Int):=by rw [wrap64 (by omega) (by omega)]; rfl
theorem nat_ne {a b:Nat} (h:((a:Int) != (b:Int)) = false):a = b:=by simp at h; omega
theorem f42_ev (a b:List Int) (ha:(a.length:Int)≤big') (hb:(b.length:Int)≤big') (K:List AV→Prop) (hK:K [bo (decide (a = b))]):evSpec K0 Tryd.f42 [ii a,ii b] K:=by
 have hbig:big' = 1000000000000:=rfl
 have no:a≠b→K [.imm (.bool false)]:=fun h=>by rw [decide_eq_false h] at hK; exact hK
 refine Eq.mpr (f42_in a b K) ?_
 refine brn_intro (fun h=>?_) (fun h=>?_)
 ·refine no (fun e=>?_)
  subst e
  simp at h
 ·have hl:a.length = b.length:=nat_ne h
  unfold LoopI
  refine loop_rule (fun i:Nat=>hA (ii a) (ii b) i) (fun i=>i≤a.length∧a.take i = b.take i) (fun i=>a.length - i) (fun i hP K' hnorm hexit=>?_) rfl 0 pA _ ⟨Nat.zero_le _,by simp⟩ (by kernel_rfl)
  obtain ⟨hi,ht⟩:=hP
  rw [f42_lp]
  refine brn_intro (fun h1=>?_) (fun h1=>?_)
  ·simp only [decide_eq_true_eq] at h1
   simp only [Int.toNat_natCast]
   refine ⟨by omega,by omega,by omega,by omega,brn_intro (fun h2=>?_) (fun h2=>?_)⟩
   ·refine hexit _ _ (by simp) (Eq.mp (by kernel_rfl) (no (ne_of_at 0 (i:=i) fun e=>?_)))
    rw [e] at h2
    simp at h2
   ·have e3:a.getD i 0 = b.getD i 0:=by
     simpa using h2
    simp only [inc (show i≤1000000000000 by omega)]
    refine hnorm (i + 1) pA _ ⟨by omega,?_⟩ (by omega) (by kernel_rfl)
    rw [takeS 0 (by omega),takeS 0 (by omega),ht,e3]
  ·simp only [decide_eq_false_iff_not] at h1
   have hil:i = a.length:=by omega
   have e:a = b:=by
    rw [hil,List.take_length,hl,List.take_length] at ht
    exact ht
   rw [decide_eq_true e] at hK
   exact hexit _ _ (by simp) (Eq.mp (by kernel_rfl) hK)
theorem f45_ev (a b:List Bool) (ha:(a.length:Int)≤big') (hb:(b.length:Int)≤big') (K:List AV→Prop) (hK:K [bo (decide (a = b))]):evSpec K0 Tryd.f45 [oo a,oo b] K:=by
 have hbig:big' = 1000000000000:=rfl
 have no:a≠b→K [.imm (.bool false)]:=fun h=>by rw [decide_eq_false h] at hK; exact hK
 refine Eq.mpr (f45_in a b K) ?_
 refine brn_intro (fun h=>?_) (fun h=>?_)
 ·refine no (fun e=>?_)
  subst e
  simp at h
 ·have hl:a.length = b.length:=nat_ne h
  unfold LoopI
  refine loop_rule (fun i:Nat=>hA (oo a) (oo b) i) (fun i=>i≤a.length∧a.take i = b.take i) (fun i=>a.length - i) (fun i hP K' hnorm hexit=>?_) rfl 0 pA _ ⟨Nat.zero_le _,by simp⟩ (by kernel_rfl)
  obtain ⟨hi,ht⟩:=hP
  rw [f45_lp]
  refine brn_intro (fun h1=>?_) (fun h1=>?_)
  ·simp only [decide_eq_true_eq] at h1
   simp only [Int.toNat_natCast]
   refine ⟨by omega,by omega,by omega,by omega,brn_intro (fun h2=>?_) (fun h2=>?_)⟩
   ·refine hexit _ _ (by simp) (Eq.mp (by kernel_rfl) (no (ne_of_at false (i:=i) fun e=>?_)))
    rw [e] at h2
    simp at h2
   ·have e3:a.getD i false = b.getD i false:=by
     simpa using h2
    simp only [inc (show i≤1000000000000 by omega)]
    refine hnorm (i + 1) pA _ ⟨by omega,?_⟩ (by omega) (by kernel_rfl)
    rw [takeS false (by omega),takeS false (by omega),ht,e3]
  ·simp only [decide_eq_false_iff_not] at h1
   have hil:i = a.length:=by omega
   have e:a = b:=by
    rw [hil,List.take_length,hl,List.take_length] at ht
    exact ht
   rw [decide_eq_true e] at hK
   exact hexit _ _ (by simp) (Eq.mp (by kernel_rfl) hK)
theorem f46_ev (a b:List Int) (ha:(a.length:Int)≤big') (hb:(b.length:Int)≤big') (K:List AV→Prop) (hK:K [bo (decide (a = b))]):evSpec K0 Tryd.f46 [ii a,ii b] K:=by
 have hbig:big' = 1000000000000:=rfl
 have no:a≠b→K [.imm (.bool false)]:=fun h=>by rw [decide_eq_false h] at hK; exact hK
 refine Eq.mpr (f46_in a b K) ?_
 refine brn_intro (fun h=>?_) (fun h=>?_)
 ·refine no (fun e=>?_)
  subst e
  simp at h
 ·have hl:a.length = b.length:=nat_ne h
  unfold LoopI
  refine loop_rule (fun i:Nat=>hB (ii a) (ii b) a.length i) (fun i=>i≤a.length∧a.take i = b.take i) (fun i=>a.length - i) (fun i hP K' hnorm hexit=>?_) rfl 0 pB _ ⟨Nat.zero_le _,by simp⟩ (by kernel_rfl)
  obtain ⟨hi,ht⟩:=hP
  rw [f46_lp]
  refine brn_intro (fun h1=>?_) (fun h1=>?_)
  ·simp only [decide_eq_true_eq] at h1
   simp only [Int.toNat_natCast]
   refine ⟨by omega,by omega,by omega,by omega,brn_intro (fun h2=>?_) (fun h2=>?_)⟩
   ·refine hexit _ _ (by simp) (Eq.mp (by kernel_rfl) (no (ne_of_at 0 (i:=i) fun e=>?_)))
    rw [e] at h2
    simp at h2
   ·have e3:a.getD i 0 = b.getD i 0:=by
     simpa using h2
    simp only [inc (show i≤1000000000000 by omega)]
    refine hnorm (i + 1) pB _ ⟨by omega,?_⟩ (by omega) (by kernel_rfl)
    rw [takeS 0 (by omega),takeS 0 (by omega),ht,e3]
  ·simp only [decide_eq_false_iff_not] at h1
   have hil:i = a.length:=by omega
   have e:a = b:=by
    rw [hil,List.take_length,hl,List.take_length] at ht
    exact ht
   rw [decide_eq_true e] at hK
   exact hexit _ _ (by simp) (Eq.mp (by kernel_rfl) hK)
theorem f47_ev (a b:List UInt8) (ha:(a.length:Int)≤big) (hb:(b.length:Int)≤big) (K:List AV→Prop) (hK:K [bo (decide (a = b))]):evSpec K0 Tryd.f47 [by' a,by' b] K:=by
 have hbig:big = 4611686018427387904:=rfl
 have no:a≠b→K [.imm (.bool false)]:=fun h=>by rw [decide_eq_false h] at hK; exact hK
 refine Eq.mpr (f47_in a b K) ?_
 refine brn_intro (fun h=>?_) (fun h=>?_)
 ·refine no (fun e=>?_)
  subst e
  simp at h
 ·have hl:a.length = b.length:=nat_ne h
  unfold LoopI
  refine loop_rule (fun i:Nat=>hB (by' a) (by' b) a.length i) (fun i=>i≤a.length∧a.take i = b.take i) (fun i=>a.length - i) (fun i hP K' hnorm hexit=>?_) rfl 0 pB _ ⟨Nat.zero_le _,by simp⟩ (by kernel_rfl)
  obtain ⟨hi,ht⟩:=hP
  rw [f47_lp]
  refine brn_intro (fun h1=>?_) (fun h1=>?_)
  ·simp only [decide_eq_true_eq] at h1
   simp only [Int.toNat_natCast]
   refine ⟨by omega,by omega,by omega,by omega,brn_intro (fun h2=>?_) (fun h2=>?_)⟩
   ·refine hexit _ _ (by simp) (Eq.mp (by kernel_rfl) (no (ne_of_at 0 (i:=i) fun e=>?_)))
    rw [e] at h2
    simp at h2
   ·have e3:a.getD i 0 = b.getD i 0:=by
     simp only [bne_eq_false_iff_eq] at h2
     exact UInt8.toNat_inj.1 (by omega)
    simp only [incB (show i≤4611686018427387904 by omega)]
    refine hnorm (i + 1) pB _ ⟨by omega,?_⟩ (by omega) (by kernel_rfl)
    rw [takeS 0 (by omega),takeS 0 (by omega),ht,e3]
  ·simp only [decide_eq_false_iff_not] at h1
   have hil:i = a.length:=by omega
   have e:a = b:=by
    rw [hil,List.take_length,hl,List.take_length] at ht
    exact ht
   rw [decide_eq_true e] at hK
   exact hexit _ _ (by simp) (Eq.mp (by kernel_rfl) hK)
theorem f50_ev (a b:List Bool) (ha:(a.length:Int)≤big') (hb:(b.length:Int)≤big') (K:List AV→Prop) (hK:K [bo (decide (a = b))]):evSpec K0 Tryd.f50 [oo a,oo b] K:=by
 have hbig:big' = 1000000000000:=rfl
 have no:a≠b→K [.imm (.bool false)]:=fun h=>by rw [decide_eq_false h] at hK; exact hK
 refine Eq.mpr (f50_in a b K) ?_
 refine brn_intro (fun h=>?_) (fun h=>?_)
 ·refine no (fun e=>?_)
  subst e
  simp at h
 ·have hl:a.length = b.length:=nat_ne h
  unfold LoopI
  refine loop_rule (fun i:Nat=>hB (oo a) (oo b) a.length i) (fun i=>i≤a.length∧a.take i = b.take i) (fun i=>a.length - i) (fun i hP K' hnorm hexit=>?_) rfl 0 pB _ ⟨Nat.zero_le _,by simp⟩ (by kernel_rfl)
  obtain ⟨hi,ht⟩:=hP
  rw [f50_lp]
  refine brn_intro (fun h1=>?_) (fun h1=>?_)
  ·simp only [decide_eq_true_eq] at h1
   simp only [Int.toNat_natCast]
   refine ⟨by omega,by omega,by omega,by omega,brn_intro (fun h2=>?_) (fun h2=>?_)⟩
   ·refine hexit _ _ (by simp) (Eq.mp (by kernel_rfl) (no (ne_of_at false (i:=i) fun e=>?_)))
    rw [e] at h2
    simp at h2
   ·have e3:a.getD i false = b.getD i false:=by
     simpa using h2
    simp only [inc (show i≤1000000000000 by omega)]
    refine hnorm (i + 1) pB _ ⟨by omega,?_⟩ (by omega) (by kernel_rfl)
    rw [takeS false (by omega),takeS false (by omega),ht,e3]
  ·simp only [decide_eq_false_iff_not] at h1
   have hil:i = a.length:=by omega
   have e:a = b:=by
    rw [hil,List.take_length,hl,List.take_length] at ht
    exact ht
   rw [decide_eq_true e] at hK
   exact hexit _ _ (by simp) (Eq.mp (by kernel_rfl) hK)
theorem f44_ev (L M:List Lp) (ha:(L.length:Int)≤big') (hb:(M.length:Int)≤big') (K:List AV→Prop) (hK:K [bo (decide (L = M))]):evSpec K0 Tryd.f44 [.imm (slL L),.imm (slL M)] K:=by
 have hbig:big' = 1000000000000:=rfl
 have no:L≠M→K [.imm (.bool false)]:=fun h=>by rw [decide_eq_false h] at hK; exact hK
 unfold slL
 refine Eq.mpr (f44_in (L.map cellsL) (M.map cellsL) K) ?_
 simp only [List.length_map]
 refine brn_intro (fun h=>?_) (fun h=>?_)
 ·refine no (fun e=>?_)
  subst e
  simp at h
 ·have hl:L.length = M.length:=nat_ne h
  unfold LoopI
  refine loop_rule (fun i:Nat=>hA (ll (L.map cellsL)) (ll (M.map cellsL)) i) (fun i=>i≤L.length∧L.take i = M.take i) (fun i=>L.length - i) (fun i hP K' hnorm hexit=>?_) rfl 0 pA _ ⟨Nat.zero_le _,by simp⟩ (by kernel_rfl)
  obtain ⟨hi,ht⟩:=hP
  rw [f44_lp]
  simp only [List.length_map]
  refine brn_intro (fun h1=>?_) (fun h1=>?_)
  ·simp only [decide_eq_true_eq] at h1
   have hlt:i < L.length:=by omega
   simp only [Int.toNat_natCast,getL hlt,getL (hl ▸ hlt:i < M.length),kL,aL,cL]
   refine ⟨by omega,by omega,True.intro,by omega,by omega,True.intro,brn_intro (fun h2=>?_) (fun h2=>?_)⟩
   ·refine hexit _ _ (by simp) (Eq.mp (by kernel_rfl) (no (ne_of_at p0 (i:=i) fun e=>?_)))
    rw [e] at h2
    simp at h2
   ·have e3:L.getD i p0 = M.getD i p0:=by
     simp only [Bool.not_eq_false',Bool.and_eq_true,beq_iff_eq,and_true] at h2
     obtain ⟨q1,q2⟩:=h2
     generalize L.getD i p0 = x at *
     generalize M.getD i p0 = y at *
     cases x; cases y
     simp only at q1 q2
     rw [q1,q2]
    simp only [inc (show i≤1000000000000 by omega)]
    refine hnorm (i + 1) pA _ ⟨by omega,?_⟩ (by omega) (by kernel_rfl)
    rw [takeS p0 (by omega),takeS p0 (by omega),ht,e3]
  ·simp only [decide_eq_false_iff_not] at h1
   have hil:i = L.length:=by omega
   have e:L = M:=by
    rw [hil,List.take_length,hl,List.take_length] at ht
    exact ht
   rw [decide_eq_true e] at hK
   exact hexit _ _ (by simp) (Eq.mp (by kernel_rfl) hK)
theorem f49_ev (L M:List Lp) (ha:(L.length:Int)≤big') (hb:(M.length:Int)≤big') (K:List AV→Prop) (hK:K [bo (decide (L = M))]):evSpec K0 Tryd.f49 [.imm (slL L),.imm (slL M)] K:=by
 have hbig:big' = 1000000000000:=rfl
 have no:L≠M→K [.imm (.bool false)]:=fun h=>by rw [decide_eq_false h] at hK; exact hK
 unfold slL
 refine Eq.mpr (f49_in (L.map cellsL) (M.map cellsL) K) ?_
 simp only [List.length_map]
 refine brn_intro (fun h=>?_) (fun h=>?_)
 ·refine no (fun e=>?_)
  subst e
  simp at h
 ·have hl:L.length = M.length:=nat_ne h
  unfold LoopI
  refine loop_rule (fun i:Nat=>hB (ll (L.map cellsL)) (ll (M.map cellsL)) L.length i) (fun i=>i≤L.length∧L.take i = M.take i) (fun i=>L.length - i) (fun i hP K' hnorm hexit=>?_) rfl 0 pB _ ⟨Nat.zero_le _,by simp⟩ (by kernel_rfl)
  obtain ⟨hi,ht⟩:=hP
  rw [f49_lp]
  simp only [List.length_map]
  refine brn_intro (fun h1=>?_) (fun h1=>?_)
  ·simp only [decide_eq_true_eq] at h1
   have hlt:i < L.length:=by omega
   simp only [Int.toNat_natCast,getL hlt,getL (hl ▸ hlt:i < M.length),kL,aL,cL]
   refine ⟨by omega,by omega,True.intro,by omega,by omega,True.intro,brn_intro (fun h2=>?_) (fun h2=>?_)⟩
   ·refine hexit _ _ (by simp) (Eq.mp (by kernel_rfl) (no (ne_of_at p0 (i:=i) fun e=>?_)))
    rw [e] at h2
    simp at h2
   ·have e3:L.getD i p0 = M.getD i p0:=by
     simp only [Bool.not_eq_false',Bool.and_eq_true,beq_iff_eq,and_true] at h2
     obtain ⟨q1,q2⟩:=h2
     generalize L.getD i p0 = x at *
     generalize M.getD i p0 = y at *
     cases x; cases y
     simp only at q1 q2
     rw [q1,q2]
    simp only [inc (show i≤1000000000000 by omega)]
    refine hnorm (i + 1) pB _ ⟨by omega,?_⟩ (by omega) (by kernel_rfl)
    rw [takeS p0 (by omega),takeS p0 (by omega),ht,e3]
  ·simp only [decide_eq_false_iff_not] at h1
   have hil:i = L.length:=by omega
   have e:L = M:=by
    rw [hil,List.take_length,hl,List.take_length] at ht
    exact ht
   rw [decide_eq_true e] at hK
   exact hexit _ _ (by simp) (Eq.mp (by kernel_rfl) hK)
theorem f48_ev (L M:List Ty) (ha:(L.length:Int)≤big) (hb:(M.length:Int)≤big) (K:List AV→Prop) (hK:K [bo (decide (L = M))]):evSpec K0 Tryd.f48 [.imm (slT L),.imm (slT M)] K:=by
 have hbig:big = 4611686018427387904:=rfl
 have no:L≠M→K [.imm (.bool false)]:=fun h=>by rw [decide_eq_false h] at hK; exact hK
 unfold slT
 refine Eq.mpr (f48_in (L.map cellsT) (M.map cellsT) K) ?_
 simp only [List.length_map]
 refine brn_intro (fun h=>?_) (fun h=>?_)
 ·refine no (fun e=>?_)
  subst e
  simp at h
 ·have hl:L.length = M.length:=nat_ne h
  unfold LoopI
  refine loop_rule (fun i:Nat=>hB (tl' (L.map cellsT)) (tl' (M.map cellsT)) L.length i) (fun i=>i≤L.length∧L.take i = M.take i) (fun i=>L.length - i) (fun i hP K' hnorm hexit=>?_) rfl 0 pB _ ⟨Nat.zero_le _,by simp⟩ (by kernel_rfl)
  obtain ⟨hi,ht⟩:=hP
  rw [f48_lp]
  simp only [List.length_map]
  refine brn_intro (fun h1=>?_) (fun h1=>?_)
  ·simp only [decide_eq_true_eq] at h1
   have hlt:i < L.length:=by omega
   simp only [Int.toNat_natCast,getT hlt,getT (hl ▸ hlt:i < M.length),kT,oT,dT,gT]
   refine ⟨by omega,by omega,True.intro,by omega,by omega,True.intro,brn_intro (fun h2=>?_) (fun h2=>?_)⟩
   ·refine hexit _ _ (by simp) (Eq.mp (by kernel_rfl) (no (ne_of_at t0 (i:=i) fun e=>?_)))
    rw [e] at h2
    simp at h2
   ·have e3:L.getD i t0 = M.getD i t0:=by
     simp only [Bool.not_eq_false',Bool.and_eq_true,beq_iff_eq,and_true] at h2
     obtain ⟨q1,q2,q3⟩:=h2
     generalize L.getD i t0 = x at *
     generalize M.getD i t0 = y at *
     cases x; cases y
     simp only at q1 q2 q3
     rw [q1,q2,q3]
    simp only [incB (show i≤4611686018427387904 by omega)]
    refine hnorm (i + 1) pB _ ⟨by omega,?_⟩ (by omega) (by kernel_rfl)
    rw [takeS t0 (by omega),takeS t0 (by omega),ht,e3]
  ·simp only [decide_eq_false_iff_not] at h1
   have hil:i = L.length:=by omega
   have e:L = M:=by
    rw [hil,List.take_length,hl,List.take_length] at ht
    exact ht
   rw [decide_eq_true e] at hK
   exact hexit _ _ (by simp) (Eq.mp (by kernel_rfl) hK)
end Z19
set_option maxRecDepth 100000
namespace Z19
open Go Go.AE Go.Proofs D6
attribute [local irreducible] loopK evCode evSpec loopB norm
theorem sz_nat {s:Int} (h:sz48 s):∃ n:Nat,s = (n:Int)∧4≤n∧n≤8:=by
 rcases h with rfl | rfl
 ·exact ⟨4,rfl,by decide,by decide⟩
 ·exact ⟨8,rfl,by decide,by decide⟩
theorem decI_len (b:List UInt8) (s:Nat):∀ k,(decI b s k).length = k
 | 0=>rfl
 | k + 1=>by rw [decI,List.length_append,decI_len b s k]; rfl
theorem decL_len (b:List UInt8) (s:Nat):∀ k,(decL b s k).length = k
 | 0=>rfl
 | k + 1=>by rw [decL,List.length_append,decL_len b s k]; rfl
theorem uintP_take {b:List UInt8} {o n:Nat} (h:o + n≤b.length):uintP b o n = beN ((b.drop o).take n):=by
 unfold uintP okR
 rw [if_pos (by simpa using h)]
theorem uintP_cut {b:List UInt8} {o n m:Nat} (h:m = n) (h2:o + n≤b.length):uintP ((b.drop o).take m) 0 n = beN ((b.drop o).take n):=by
 subst h
 rw [uintP_take (by rw [List.length_take,List.length_drop]; omega),List.drop_zero,List.take_take,Nat.min_self]
theorem mul_le_of_div {n i L:Nat} (h:i≤L / n):n * i≤L:=Nat.le_trans (Nat.mul_le_mul_left n h) (Nat.mul_div_le L n)
theorem lt_div_of {n i L:Nat} (hn:0 < n) (h:n * (i + 1)≤L):i + 1≤L / n:=(Nat.le_div_iff_mul_le hn).2 (by rw [Nat.mul_comm]; exact h)
theorem nlt_div {n i L:Nat} (hn:0 < n) (h:¬ n * (i + 1)≤L) (h2:i≤L / n):i = L / n:=by
 rcases Nat.lt_or_ge i (L / n) with q | q
 ·exact absurd (mul_le_of_div q) h
 ·omega
theorem tdivP {n L:Nat} (hL:L≤1000000000000):IntKind.wrap .i64 (Int.tdiv (L:Int) (n:Int)) = ((L / n:Nat):Int):=by
 have e:Int.tdiv (L:Int) (n:Int) = ((L / n:Nat):Int):=by simp [Int.tdiv]
 have:=Nat.div_le_self L n
 rw [e]
 generalize L / n = q at *
 rw [wrap64 (by omega) (by omega)]
theorem f33_ev (b:List UInt8) (s:Int) (hs:sz48 s) (hb:(b.length:Int)≤big') (K:List AV→Prop) (hK:K [.new (.ints .i64 (decI b s.toNat (b.length / s.toNat)))]):evSpec K0 Tryd.f33 [by' b,i64 s] K:=by
 have hbig:big' = 1000000000000:=rfl
 have hbig2:big = 4611686018427387904:=rfl
 obtain ⟨n,rfl,n4,n8⟩:=sz_nat hs
 rw [Int.toNat_natCast] at hK
 refine Eq.mpr (f33_in b n K) ?_
 unfold LoopI
 refine loop_rule (fun i:Nat=>h33 b n (decI b n i) ((n * i:Nat):Int)) (fun i=>i≤b.length / n) (fun i=>b.length / n - i) (fun i hP K' hnorm hexit=>?_) rfl 0 p33i _ (Nat.zero_le _) (by kernel_rfl)
 have hni:=mul_le_of_div hP
 have hil:i≤b.length:=Nat.le_trans hP (Nat.div_le_self _ _)
 have hm:n * (i + 1) = n * i + n:=Nat.mul_succ n i
 have e1:IntKind.wrap .i64 (((n * i:Nat):Int) + (n:Int)) = ((n * (i + 1):Nat):Int):=by rw [wrap64 (by omega) (by omega)]; omega
 rw [f33_lp,e1]
 refine brn_intro (fun h=>?_) (fun h=>?_)
 ·simp only [decide_eq_true_eq] at h
  have h':n * (i + 1)≤b.length:=by omega
  have hu:=uintP_take (b:=b) (o:=n * i) (n:=n) (by omega)
  have hl:=decI_len b n i
  simp only [Int.toNat_natCast,hu]
  refine ⟨by omega,by omega,by omega,by omega,by omega,by simp only [hl,List.length_singleton]; omega,by simp only [hl,List.length_singleton]; omega,hnorm (i + 1) ⟨[],msk [0,1,5,6] 0 30,[0]⟩ _ (lt_div_of (by omega) h') (by have:=lt_div_of (n:=n) (by omega) h'; omega) (by kernel_rfl)⟩
 ·simp only [decide_eq_false_iff_not] at h
  have hi:i = b.length / n:=nlt_div (by omega) (by omega) hP
  rw [← hi] at hK
  exact hexit _ _ (by simp) (Eq.mp (by kernel_rfl) hK)
theorem f38_ev (b:List UInt8) (s:Int) (hs:sz48 s) (hb:(b.length:Int)≤big') (K:List AV→Prop) (hK:K [.new (.ints .i64 (decI b s.toNat (b.length / s.toNat)))]):evSpec K0 Tryd.f38 [by' b,i64 s] K:=by
 have hbig:big' = 1000000000000:=rfl
 have hbig2:big = 4611686018427387904:=rfl
 obtain ⟨n,rfl,n4,n8⟩:=sz_nat hs
 rw [Int.toNat_natCast] at hK
 refine Eq.mpr (f38_in b n K) ?_
 unfold LoopI
 refine loop_rule (fun i:Nat=>h38 b n (decI b n i) i) (fun i=>i≤b.length / n) (fun i=>b.length / n - i) (fun i hP K' hnorm hexit=>?_) rfl 0 p38i _ (Nat.zero_le _) (by kernel_rfl)
 have hni:=mul_le_of_div hP
 have hil:i≤b.length:=Nat.le_trans hP (Nat.div_le_self _ _)
 rw [f38_lp,tdivP (by omega)]
 refine ⟨by omega,brn_intro (fun h=>?_) (fun h=>?_)⟩
 ·simp only [decide_eq_true_eq] at h
  have hi:i + 1≤b.length / n:=by omega
  have hni2:=mul_le_of_div hi
  have hm:n * (i + 1) = n * i + n:=Nat.mul_succ n i
  have e1:IntKind.wrap .i64 ((i:Int) * (n:Int)) = ((n * i:Nat):Int):=by rw [← Int.natCast_mul,Nat.mul_comm,wrap64 (by omega) (by omega)]
  have e3:IntKind.wrap .i64 (((i + 1:Nat):Int) * (n:Int)) = ((n * (i + 1):Nat):Int):=by rw [← Int.natCast_mul,Nat.mul_comm,wrap64 (by omega) (by omega)]
  have hu:=uintP_cut (b:=b) (o:=n * i) (n:=n) (m:=n * (i + 1) - n * i) (by omega) (by omega)
  have hl:=decI_len b n i
  have z0:Int.toNat 0 = 0:=rfl
  simp only [inc (show i≤1000000000000 by omega),e1,e3,Int.toNat_natCast,z0,hu]
  refine ⟨by omega,by omega,by omega,by rw [List.length_take,List.length_drop]; omega,by omega,by omega,by omega,by omega,by simp only [hl,List.length_singleton]; omega,by simp only [hl,List.length_singleton]; omega,hnorm (i + 1) ⟨[],msk [0,1,5,6] 0 36,[0]⟩ _ hi (by omega) (by kernel_rfl)⟩
 ·simp only [decide_eq_false_iff_not] at h
  have hi:i = b.length / n:=by omega
  rw [← hi] at hK
  exact hexit _ _ (by simp) (Eq.mp (by kernel_rfl) hK)
theorem f34_ev (b:List UInt8) (s:Int) (hs:sz48 s) (hb:(b.length:Int)≤big') (K:List AV→Prop) (hK:K [.new (slL (decL b s.toNat (b.length / (s.toNat + 4))))]):evSpec K0 Tryd.f34 [by' b,i64 s] K:=by
 have hbig:big' = 1000000000000:=rfl
 have hbig2:big = 4611686018427387904:=rfl
 obtain ⟨n,rfl,n4,n8⟩:=sz_nat hs
 rw [Int.toNat_natCast] at hK
 refine Eq.mpr (f34_in b n K) ?_
 unfold LoopI
 refine loop_rule (fun i:Nat=>h34 b n (decL b n i) (((n + 4) * i:Nat):Int)) (fun i=>i≤b.length / (n + 4)) (fun i=>b.length / (n + 4) - i) (fun i hP K' hnorm hexit=>?_) rfl 0 p34i _ (Nat.zero_le _) (by kernel_rfl)
 have hni:=mul_le_of_div hP
 have hil:i≤b.length:=Nat.le_trans hP (Nat.div_le_self _ _)
 have hm:(n + 4) * (i + 1) = (n + 4) * i + (n + 4):=Nat.mul_succ (n + 4) i
 have e1:IntKind.wrap .i64 ((((n + 4) * i:Nat):Int) + (n:Int)) = (((n + 4) * i + n:Nat):Int):=by rw [wrap64 (by omega) (by omega)]; omega
 have e2:IntKind.wrap .i64 ((((n + 4) * i + n:Nat):Int) + 4) = (((n + 4) * (i + 1):Nat):Int):=by rw [wrap64 (by omega) (by omega)]; omega
 have e3:IntKind.wrap .i64 ((n:Int) + 4) = ((n + 4:Nat):Int):=by rw [wrap64 (by omega) (by omega)]; omega
 have e4:IntKind.wrap .i64 ((((n + 4) * i:Nat):Int) + ((n + 4:Nat):Int)) = (((n + 4) * (i + 1):Nat):Int):=by rw [wrap64 (by omega) (by omega)]; omega
 rw [f34_lp]
 simp only [e1,e2,e3,e4]
 refine brn_intro (fun h=>?_) (fun h=>?_)
 ·simp only [decide_eq_true_eq] at h
  have h':(n + 4) * (i + 1)≤b.length:=by omega
  have hu:=uintP_take (b:=b) (o:=(n + 4) * i) (n:=n) (by omega)
  have hv:=uintP_take (b:=b) (o:=(n + 4) * i + n) (n:=4) (by omega)
  have hl:=decL_len b n i
  have z4:Int.toNat 4 = 4:=rfl
  have h32:=sgn4 (uintP_lt b ((n + 4) * i + n) 4)
  have hw:=wrap32 h32.1 h32.2
  have hmap:(decL b n (i + 1)).map cellsL = (decL b n i).map cellsL ++ [[.int .i64 (sgnN n (beN ((b.drop ((n + 4) * i)).take n))),.int .i32 (sgnN 4 (beN ((b.drop ((n + 4) * i + n)).take 4)))]]:=by rw [decL,List.map_append]; rfl
  rw [hv] at hw
  simp only [Int.toNat_natCast,z4,hu,hv,hw,← hmap]
  refine ⟨by omega,by omega,by omega,by omega,by omega,by omega,by omega,by omega,by omega,by omega,by simp only [List.length_map,hl,List.length_singleton]; omega,by simp only [List.length_map,hl,List.length_singleton]; omega,hnorm (i + 1) ⟨[],msk [0,1,5,6] 0 45,[0]⟩ _ (lt_div_of (by omega) h') (by have:=lt_div_of (n:=n + 4) (by omega) h'; omega) (by kernel_rfl)⟩
 ·simp only [decide_eq_false_iff_not] at h
  have hi:i = b.length / (n + 4):=nlt_div (by omega) (by omega) hP
  rw [← hi] at hK
  exact hexit _ _ (by simp) (Eq.mp (by kernel_rfl) hK)
theorem f40_ev (b:List UInt8) (s:Int) (hs:sz48 s) (hb:(b.length:Int)≤big') (K:List AV→Prop) (hK:K [.new (slL (decL b s.toNat (b.length / (s.toNat + 4))))]):evSpec K0 Tryd.f40 [by' b,i64 s] K:=by
 have hbig:big' = 1000000000000:=rfl
 have hbig2:big = 4611686018427387904:=rfl
 obtain ⟨n,rfl,n4,n8⟩:=sz_nat hs
 rw [Int.toNat_natCast] at hK
 refine Eq.mpr (f40_in b n K) ?_
 have e3:IntKind.wrap .i64 ((n:Int) + 4) = ((n + 4:Nat):Int):=by rw [wrap64 (by omega) (by omega)]; omega
 rw [e3]
 unfold LoopI
 refine loop_rule (fun i:Nat=>h40 b n ((n + 4:Nat):Int) (decL b n i) i) (fun i=>i≤b.length / (n + 4)) (fun i=>b.length / (n + 4) - i) (fun i hP K' hnorm hexit=>?_) rfl 0 p40i _ (Nat.zero_le _) (by kernel_rfl)
 have hni:=mul_le_of_div hP
 have hil:i≤b.length:=Nat.le_trans hP (Nat.div_le_self _ _)
 rw [f40_lp,tdivP (by omega)]
 refine ⟨by omega,brn_intro (fun h=>?_) (fun h=>?_)⟩
 ·simp only [decide_eq_true_eq] at h
  have hi:i + 1≤b.length / (n + 4):=by omega
  have hni2:=mul_le_of_div hi
  have hm:(n + 4) * (i + 1) = (n + 4) * i + (n + 4):=Nat.mul_succ (n + 4) i
  have e1:IntKind.wrap .i64 ((i:Int) * ((n + 4:Nat):Int)) = (((n + 4) * i:Nat):Int):=by rw [← Int.natCast_mul,Nat.mul_comm,wrap64 (by omega) (by omega)]
  have e2:IntKind.wrap .i64 ((((n + 4) * i:Nat):Int) + (n:Int)) = (((n + 4) * i + n:Nat):Int):=by rw [wrap64 (by omega) (by omega)]; omega
  have hu:=uintP_take (b:=b) (o:=(n + 4) * i) (n:=n) (by omega)
  have hv:=uintP_take (b:=b) (o:=(n + 4) * i + n) (n:=4) (by omega)
  have hl:=decL_len b n i
  have z4:Int.toNat 4 = 4:=rfl
  have h32:=sgn4 (uintP_lt b ((n + 4) * i + n) 4)
  have hw:=wrap32 h32.1 h32.2
  have hmap:(decL b n (i + 1)).map cellsL = (decL b n i).map cellsL ++ [[.int .i64 (sgnN n (beN ((b.drop ((n + 4) * i)).take n))),.int .i32 (sgnN 4 (beN ((b.drop ((n + 4) * i + n)).take 4)))]]:=by rw [decL,List.map_append]; rfl
  rw [hv] at hw
  simp only [inc (show i≤1000000000000 by omega),e1,e2,Int.toNat_natCast,z4,hu,hv,hw,← hmap]
  refine ⟨by omega,by omega,by omega,by omega,by omega,by omega,by omega,by omega,by omega,by omega,by simp only [List.length_map,hl,List.length_singleton]; omega,by simp only [List.length_map,hl,List.length_singleton]; omega,hnorm (i + 1) ⟨[],msk [0,1,5,6,7] 0 49,[0]⟩ _ hi (by omega) (by kernel_rfl)⟩
 ·simp only [decide_eq_false_iff_not] at h
  have hi:i = b.length / (n + 4):=by omega
  rw [← hi] at hK
  exact hexit _ _ (by simp) (Eq.mp (by kernel_rfl) hK)
def isO (x:UInt8):Bool:=decide (x.toNat≤1)
def toO (x:UInt8):Bool:=x == 1
theorem ind_eq (b:List UInt8):indOk b = b.all isO:=rfl
theorem all_at {b:List UInt8} {i:Nat} (h:i < b.length) (hx:isO (b.getD i 0) = false):b.all isO = false:=by
 cases he:b.all isO with
 | false=>rfl
 | true=>rw [List.all_eq_true] at he; rw [he _ (memD 0 h)] at hx; cases hx
theorem all_next {b:List UInt8} {i:Nat} (h:i < b.length) (ha:(b.take i).all isO = true) (hx:isO (b.getD i 0) = true):(b.take (i + 1)).all isO = true:=by
 rw [takeS 0 h,List.all_append,ha]; simpa using hx
theorem map_next {b:List UInt8} {i:Nat} (h:i < b.length):(b.take (i + 1)).map toO = (b.take i).map toO ++ [toO (b.getD i 0)]:=by rw [takeS 0 h,List.map_append]; rfl
theorem f32_ev (b:List UInt8) (hb:(b.length:Int)≤big') (K:List AV→Prop) (hK:K [.new (.bools (decO b)),bo (indOk b)]):evSpec K0 Tryd.f32 [by' b] K:=by
 have hbig:big' = 1000000000000:=rfl
 refine Eq.mpr (f32_in b K) ?_
 unfold LoopI
 refine loop_rule (fun i:Nat=>h32 b ((b.take i).map toO) i) (fun i=>i≤b.length∧(b.take i).all isO = true) (fun i=>b.length - i) (fun i hP K' hnorm hexit=>?_) rfl 0 p32i _ ⟨Nat.zero_le _,rfl⟩ (by kernel_rfl)
 obtain ⟨hi,ha⟩:=hP
 rw [f32_lp]
 refine brn_intro (fun h=>?_) (fun h=>?_)
 ·simp only [decide_eq_true_eq] at h
  have hlt:i < b.length:=by omega
  have hx:=(b.getD i 0).toNat_lt
  have e1:IntKind.wrap .i64 (((b.getD i 0).toNat:Nat):Int) = ((b.getD i 0).toNat:Int):=wrap64 (by omega) (by omega)
  have hl:((b.take i).map toO).length = i:=by rw [List.length_map,List.length_take]; omega
  have hn:=map_next hlt
  simp only [inc (show i≤1000000000000 by omega),e1,Int.toNat_natCast]
  refine ⟨by omega,by omega,brn_intro (fun h2=>?_) (fun h2=>?_)⟩
  ·simp only [decide_eq_true_eq] at h2
   have hno:indOk b = false:=by rw [ind_eq]; exact all_at hlt (by unfold isO; simp only [decide_eq_false_iff_not]; omega)
   unfold decO at hK
   rw [hno] at hK
   exact hexit _ _ (by simp) (Eq.mp (by kernel_rfl) hK)
  ·simp only [decide_eq_false_iff_not] at h2
   have hok:isO (b.getD i 0) = true:=by unfold isO; simp only [decide_eq_true_eq]; omega
   have key:∀ v:Bool,toO (b.getD i 0) = v→(((b.take i).map toO).length + [v].length) * 1≤140737488355328∧((b.take i).map toO).length + [v].length≤140737488355328∧(b.take i).map toO ++ [v] = (b.take (i + 1)).map toO:=by
    intro v hv
    rw [hn,hv,hl]
    exact ⟨by simp; omega,by simp; omega,rfl⟩
   refine ⟨by omega,by omega,fun h3=>?_,fun h3=>?_⟩
   ·obtain ⟨k1,k2,k3⟩:=key false (by unfold toO; have:b.getD i 0 = 0:=UInt8.toNat_inj.1 (by show (b.getD i 0).toNat = 0; omega); rw [this]; rfl)
    rw [k3]
    exact ⟨k1,k2,hnorm (i + 1) ⟨[],msk [4,7,8,9] 0 24,[0]⟩ _ ⟨hlt,all_next hlt ha hok⟩ (by omega) (by kernel_rfl)⟩
   ·obtain ⟨k1,k2,k3⟩:=key true (by unfold toO; have:b.getD i 0 = 1:=UInt8.toNat_inj.1 (by show (b.getD i 0).toNat = 1; omega); rw [this]; rfl)
    rw [k3]
    exact ⟨k1,k2,hnorm (i + 1) ⟨[],msk [4,7,8,9] 0 24,[0]⟩ _ ⟨hlt,all_next hlt ha hok⟩ (by omega) (by kernel_rfl)⟩
 ·simp only [decide_eq_false_iff_not] at h
  have hil:i = b.length:=by omega
  subst hil
  rw [List.take_length] at ha
  have hd:decO b = (b.take b.length).map toO:=by unfold decO; rw [ind_eq,ha,if_pos rfl,List.take_length]; rfl
  rw [hd,ind_eq,ha] at hK
  exact hexit _ _ (by simp) (Eq.mp (by kernel_rfl) hK)
theorem f41_ev (b:List UInt8) (hb:(b.length:Int)≤big') (K:List AV→Prop) (hK:K [.new (.bools (decO b)),bo (indOk b)]):evSpec K0 Tryd.f41 [by' b] K:=by
 have hbig:big' = 1000000000000:=rfl
 refine Eq.mpr (f41_in b K) ?_
 unfold LoopI
 refine loop_rule (fun i:Nat=>h41 b ((b.take i).map toO) i) (fun i=>i≤b.length∧(b.take i).all isO = true) (fun i=>b.length - i) (fun i hP K' hnorm hexit=>?_) rfl 0 p41i _ ⟨Nat.zero_le _,rfl⟩ (by kernel_rfl)
 obtain ⟨hi,ha⟩:=hP
 rw [f41_lp]
 refine brn_intro (fun h=>?_) (fun h=>?_)
 ·simp only [decide_eq_true_eq] at h
  have hlt:i < b.length:=by omega
  have hl:((b.take i).map toO).length = i:=by rw [List.length_map,List.length_take]; omega
  have hn:=map_next hlt
  have e5:(b.take i).map toO ++ [b.getD i 0 == 1] = (b.take (i + 1)).map toO:=hn.symm
  simp only [inc (show i≤1000000000000 by omega),Int.toNat_natCast,gt1,beq1,e5]
  refine ⟨by omega,by omega,brn_intro (fun h2=>?_) (fun h2=>?_)⟩
  ·have hno:indOk b = false:=by rw [ind_eq]; exact all_at hlt (by unfold isO; simpa using h2)
   unfold decO at hK
   rw [hno] at hK
   exact hexit _ _ (by simp) (Eq.mp (by kernel_rfl) hK)
  ·have hok:isO (b.getD i 0) = true:=by unfold isO; simpa using h2
   refine ⟨by omega,by omega,by rw [hl]; simp; omega,by rw [hl]; simp; omega,hnorm (i + 1) ⟨[],msk [0,4,5] 0 26,[0]⟩ _ ⟨hlt,all_next hlt ha hok⟩ (by omega) (by kernel_rfl)⟩
 ·simp only [decide_eq_false_iff_not] at h
  have hil:i = b.length:=by omega
  subst hil
  rw [List.take_length] at ha
  have hd:decO b = (b.take b.length).map toO:=by unfold decO; rw [ind_eq,ha,if_pos rfl,List.take_length]; rfl
  rw [hd,ind_eq,ha] at hK
  exact hexit _ _ (by simp) (Eq.mp (by kernel_rfl) hK)
end Z19
set_option maxRecDepth 100000
namespace Z19
open Go Go.AE Go.Proofs D6
attribute [local irreducible] loopK evCode evSpec loopB norm
theorem cut_pt (l:List UInt8) {n x y:Int} (hx:0≤x) (hy:x≤y) (hn:y≤n):List.take (Int.toNat y - Int.toNat x) (List.drop (Int.toNat x) (l.take n.toNat)) = pt l x (y - x):=by
 unfold pt
 rw [List.drop_take,List.take_take]
 congr 1
 omega
theorem pt_len (l:List UInt8) {x n:Int} (hx:0≤x) (h0:0≤n) (hn:x + n≤l.length):((pt l x n).length:Int) = n:=by
 unfold pt
 rw [List.length_take,List.length_drop]
 omega
theorem sum_pos {h:Hd} {s:Int} (hh:okH h) (hs:sz48 s):0≤l0 h s∧0≤l1 h∧0≤l2 h∧0≤l3 h∧0≤l4 h s∧0≤l5 h∧0≤l6 h∧sumU h s≤1000000000000:=by
 obtain ⟨⟨a1,a2⟩,⟨b1,b2⟩,⟨c1,c2⟩,⟨d1,d2⟩,⟨e1,e2⟩,⟨f1,f2⟩⟩:=hh
 rcases hs with rfl | rfl <;> simp only [sumU,l0,l1,l2,l3,l4,l5,l6] <;> omega
set_option maxHeartbeats 2000000 in
theorem f12_ok' (d:List UInt8) (p e a v iu is l t ty c s at':Int) (hu:okU ⟨d,p,e,a⟩) (hh:okH ⟨v,iu,is,l,t,ty,c⟩) (hs:sz48 s) :
  evSpec K3i Tryd.f12 [curAV d p e a,hdAV v iu is l t ty c,i64 s,i64 at'] (fun r=>lmap AE.settle r = [(decU ⟨d,p,e,a⟩ ⟨v,iu,is,l,t,ty,c⟩ s at').1.av,(decU ⟨d,p,e,a⟩ ⟨v,iu,is,l,t,ty,c⟩ s at').2.av]):=by
 have hu':=hu
 obtain ⟨hp0,hp1,hd⟩:=hu
 simp only at hp0 hp1 hd
 obtain ⟨q0,q1,q2,q3,q4,q5,q6,q7⟩:=sum_pos hh hs
 have hbig:big' = 1000000000000:=rfl
 refine Eq.mpr (f12_in d p e a v iu is l t ty c s at' _) ?_
 generalize hH:(⟨v,iu,is,l,t,ty,c⟩:Hd) = h at *
 have hW:IntKind.wrap .u64 (restU ⟨d,p,e,a⟩) = restU ⟨d,p,e,a⟩:=by
  unfold restU; simp only
  split
  ·exact wrapU (by omega) (by omega)
  ·exact wrapU (by omega) (by omega)
 rw [hW]
 have hW0:0≤restU ⟨d,p,e,a⟩∧restU ⟨d,p,e,a⟩≤1000000000000:=by
  unfold restU; simp only
  split <;> omega
 intro R1 R2 R3
 have h2:e≠0→R2:=fun he=>by
  show lmap AE.settle _ = _
  have:decU ⟨d,p,e,a⟩ h s at' = (zB,⟨d,p,e,a⟩):=by unfold decU; rw [if_neg (show ¬ e = 0 from he)]
  rw [this]
  rfl
 have h1:e = 0→R1:=fun he=>by
  subst he
  have hr:restU ⟨d,p,0,a⟩ = (d.length:Int) - p:=by unfold restU; rw [if_pos rfl]
  refine brn_intro (fun hb=>?_) (fun hb=>?_)
  ·have hb':¬ sumU h s≤restU ⟨d,p,0,a⟩:=by simpa using hb
   have:decU ⟨d,p,0,a⟩ h s at' = (zB,⟨d,p,1,d.length⟩):=by
    unfold decU fitsD
    rw [if_pos rfl,if_neg (by simpa using hb')]
   rw [this]
   have:failU ⟨d,p,0,a⟩ 1 d.length = ⟨d,p,1,d.length⟩:=by unfold failU; rw [if_pos ⟨rfl,by decide⟩]
   rw [this]
   rfl
  ·have hb':sumU h s≤restU ⟨d,p,0,a⟩:=by simpa using hb
   have hsum:sumU h s = l0 h s + l1 h + l2 h + l3 h + l4 h s + l5 h + l6 h:=rfl
   have e1:o1 h s = l0 h s:=rfl
   have e2:o2 h s = o1 h s + l1 h:=rfl
   have e3:o3 h s = o2 h s + l2 h:=rfl
   have e4:o4 h s = o3 h s + l3 h:=rfl
   have e5:o5 h s = o4 h s + l4 h s:=rfl
   have e6:o6 h s = o5 h s + l5 h:=rfl
   have e7:o7 h s = o6 h s + l6 h:=rfl
   have hN:IntKind.wrap .i64 (if sumU h s≤restU ⟨d,p,0,a⟩ then sumU h s else 0) = sumU h s:=by
    rw [if_pos hb']; exact wrap64 (by omega) (by omega)
   have hAD:advU ⟨d,p,0,a⟩ (sumU h s) = ⟨d,p + sumU h s,0,a⟩:=by
    unfold advU; rw [if_pos rfl,if_pos ⟨by omega,hb'⟩]
   have hTK:takeU ⟨d,p,0,a⟩ (sumU h s) = (d.drop p.toNat).take (sumU h s).toNat:=by
    unfold takeU advOk
    rw [if_pos (decide_eq_true ⟨rfl,by omega,hb'⟩)]
   rw [hN,hAD,hTK]
   generalize hD:d.drop p.toNat = D
   have hDl:(D.length:Int) = d.length - p:=by rw [← hD,List.length_drop]; omega
   have hlen:(((D.take (sumU h s).toNat).length:Nat):Int) = sumU h s:=by rw [List.length_take]; omega
   have c0:=cut_pt D (n:=sumU h s) (x:=0) (y:=o1 h s) (by omega) (by omega) (by omega)
   have c1:=cut_pt D (n:=sumU h s) (x:=o1 h s) (y:=o2 h s) (by omega) (by omega) (by omega)
   have c2:=cut_pt D (n:=sumU h s) (x:=o2 h s) (y:=o3 h s) (by omega) (by omega) (by omega)
   have c3:=cut_pt D (n:=sumU h s) (x:=o3 h s) (y:=o4 h s) (by omega) (by omega) (by omega)
   have c4:=cut_pt D (n:=sumU h s) (x:=o4 h s) (y:=o5 h s) (by omega) (by omega) (by omega)
   have c5:=cut_pt D (n:=sumU h s) (x:=o5 h s) (y:=o6 h s) (by omega) (by omega) (by omega)
   have c6:=cut_pt D (n:=sumU h s) (x:=o6 h s) (y:=o7 h s) (by omega) (by omega) (by omega)
   have d0:o1 h s - 0 = l0 h s:=by omega
   have d1:o2 h s - o1 h s = l1 h:=by omega
   have d2:o3 h s - o2 h s = l2 h:=by omega
   have d3:o4 h s - o3 h s = l3 h:=by omega
   have d4:o5 h s - o4 h s = l4 h s:=by omega
   have d5:o6 h s - o5 h s = l5 h:=by omega
   have d6:o7 h s - o6 h s = l6 h:=by omega
   rw [d0] at c0; rw [d1] at c1; rw [d2] at c2; rw [d3] at c3; rw [d4] at c4; rw [d5] at c5; rw [d6] at c6
   rw [c0,c1,c2,c3,c4,c5,c6]
   have m0:=pt_len D (x:=0) (n:=l0 h s) (by omega) (by omega) (by omega)
   have m2:=pt_len D (x:=o2 h s) (n:=l2 h) (by omega) (by omega) (by omega)
   have m4:=pt_len D (x:=o4 h s) (n:=l4 h s) (by omega) (by omega) (by omega)
   have m5:=pt_len D (x:=o5 h s) (n:=l5 h) (by omega) (by omega) (by omega)
   have m6:=pt_len D (x:=o6 h s) (n:=l6 h) (by omega) (by omega) (by omega)
   have g1:0≤o1 h s:=by omega
   have g2:0≤o2 h s:=by omega
   have g3:0≤o3 h s:=by omega
   have g4:0≤o4 h s:=by omega
   have g5:0≤o5 h s:=by omega
   have g6:0≤o6 h s:=by omega
   have k1:o1 h s≤o2 h s:=by omega
   have k2:o2 h s≤o3 h s:=by omega
   have k3:o3 h s≤o4 h s:=by omega
   have k4:o4 h s≤o5 h s:=by omega
   have k5:o5 h s≤o6 h s:=by omega
   have k6:o6 h s≤o7 h s:=by omega
   have j1:o1 h s≤((D.take (sumU h s).toNat).length:Int):=by omega
   have j2:o2 h s≤((D.take (sumU h s).toNat).length:Int):=by omega
   have j3:o3 h s≤((D.take (sumU h s).toNat).length:Int):=by omega
   have j4:o4 h s≤((D.take (sumU h s).toNat).length:Int):=by omega
   have j5:o5 h s≤((D.take (sumU h s).toNat).length:Int):=by omega
   have j6:o6 h s≤((D.take (sumU h s).toNat).length:Int):=by omega
   have j7:o7 h s≤((D.take (sumU h s).toNat).length:Int):=by omega
   have n0:((pt D 0 (l0 h s)).length:Int)≤big':=by omega
   have n2:((pt D (o2 h s) (l2 h)).length:Int)≤1000000000000:=by omega
   have n4:((pt D (o4 h s) (l4 h s)).length:Int)≤big':=by omega
   have n5:((pt D (o5 h s) (l5 h)).length:Int)≤big':=by omega
   have n6:((pt D (o6 h s) (l6 h)).length:Int)≤big':=by omega
   have hf:fitsD ⟨d,p,0,a⟩ h s = true:=by unfold fitsD; simpa using hb'
   refine ⟨hu',hh,hs,g2,k2,Int.le_refl _,j3,n2,g5,k5,Int.le_refl _,j6,n5,g6,k6,Int.le_refl _,j7,n6,brn_intro (fun hk=>?_) (fun hk=>?_)⟩
   ·have hno:okD D h s = false:=by
     unfold okD b2 b5 b6
     cases h1:decOk (pt D (o2 h s) (l2 h)) <;> cases h2:indOk (pt D (o5 h s) (l5 h)) <;> cases h3:indOk (pt D (o6 h s) (l6 h)) <;> simp_all
    have:decU ⟨d,p,0,a⟩ h s at' = (zB,⟨d,p + sumU h s,10,at'⟩):=by
     unfold decU
     rw [if_pos rfl,if_pos hf]
     simp only [hD]
     rw [if_neg (by rw [hno]; decide)]
    rw [this]
    have:failU ⟨d,p + sumU h s,0,a⟩ 10 at' = ⟨d,p + sumU h s,10,at'⟩:=by unfold failU; rw [if_pos ⟨rfl,by decide⟩]
    rw [this]
    rfl
   ·have hyes:okD D h s = true:=by
     unfold okD b2 b5 b6
     cases h1:decOk (pt D (o2 h s) (l2 h)) <;> cases h2:indOk (pt D (o5 h s) (l5 h)) <;> cases h3:indOk (pt D (o6 h s) (l6 h)) <;> simp_all
    have hdec:decU ⟨d,p,0,a⟩ h s at' = (decB D h s,⟨d,p + sumU h s,0,a⟩):=by
     unfold decU
     rw [if_pos rfl,if_pos hf]
     simp only [hD]
     rw [if_pos hyes]
    rw [hdec]
    have leaf:lmap AE.settle [AV.agg [AV.new (IV.ints IntKind.i64 (decI (pt D 0 (l0 h s)) (Int.toNat s) (List.length (pt D 0 (l0 h s)) / Int.toNat s))),AV.imm (IV.bytes (pt D (o1 h s) (l1 h))),AV.new (IV.sl 3 (List.map cellsT (dec (pt D (o2 h s) (l2 h))))),AV.imm (IV.bytes (pt D (o3 h s) (l3 h))),
      AV.new (IV.sl 2 (List.map cellsL (decL (pt D (o4 h s) (l4 h s)) (Int.toNat s) (List.length (pt D (o4 h s) (l4 h s)) / (Int.toNat s + 4))))),AV.new (IV.bools (decO (pt D (o5 h s) (l5 h)))),AV.new (IV.bools (decO (pt D (o6 h s) (l6 h))))],AV.agg [AV.imm (IV.bytes d),AV.imm (IV.int IntKind.i64 (p + sumU h s)),AV.imm (IV.int IntKind.i64 0),AV.imm (IV.int IntKind.i64 a)]] = [(decB D h s).av,Cu.av ⟨d,p + sumU h s,0,a⟩]:=rfl
    have z0:(0:Int)≤0:=Int.le_refl _
    simp only [Int.le_refl,g1,g2,g3,g4,g5,g6,k1,k2,k3,k4,k5,k6,j1,j2,j3,j4,j5,j6,j7,n0,n4,hs,true_and,and_true]
    simp only [leaf,and_self]
 have hW1:restU ⟨d,p,e,a⟩≤18446744073709551615:=by omega
 have hx:brn (e != 0) ((R2∧R2)∧R2) R1:=brn_intro (fun he=>by
  have:e≠0:=by simpa using he
  exact ⟨⟨h2 this,h2 this⟩,h2 this⟩) (fun he=>h1 (by simpa using he))
 have h3:R3:=⟨hu',hh,hs,hW0.1,hW1,hx⟩
 exact ⟨h3,h3,hu',hh,hs,hW0.1,hW1,hx⟩
end Z19
set_option maxRecDepth 100000
namespace Z19
open Go Go.AE Go.Proofs D6
attribute [local irreducible] loopK evCode evSpec loopB norm
theorem wu64 (t:Int):IntKind.wrap .u64 t = ((u64 t:Nat):Int):=by
 rw [wrapUm]
 unfold u64
 exact (Int.toNat_of_nonneg (Int.emod_nonneg t (by decide))).symm
theorem encI_app (s:Nat) (A B:List Int):encI s (A ++ B) = encI s A ++ encI s B:=by
 induction A with
 | nil=>rfl
 | cons a A ih=>rw [List.cons_append,encI,encI,ih,List.append_assoc]
theorem encI_len (s:Nat) (T:List Int):(encI s T).length = s * T.length:=by
 induction T with
 | nil=>rfl
 | cons a A ih=>rw [encI,List.length_append,be_len,ih,List.length_cons,Nat.mul_succ]; omega
theorem encI_take (s:Nat) {T:List Int} {i:Nat} (h:i < T.length):encI s (T.take (i + 1)) = encI s (T.take i) ++ be s (u64 (T.getD i 0)):=by
 rw [takeS 0 h,encI_app]
 simp [encI]
theorem encL_app (s:Nat) (A B:List Lp):encL s (A ++ B) = encL s A ++ encL s B:=by
 induction A with
 | nil=>rfl
 | cons a A ih=>rw [List.cons_append,encL,encL,ih]; simp only [List.append_assoc]
theorem encL_len (s:Nat) (T:List Lp):(encL s T).length = (s + 4) * T.length:=by
 induction T with
 | nil=>rfl
 | cons a A ih=>rw [encL,List.length_append,List.length_append,be_len,be_len,ih,List.length_cons,Nat.mul_succ]; omega
theorem encL_take (s:Nat) {T:List Lp} {i:Nat} (h:i < T.length):encL s (T.take (i + 1)) = encL s (T.take i) ++ be s (u64 (T.getD i p0).a) ++ be 4 (u64 (T.getD i p0).c):=by
 rw [takeS p0 h,encL_app]
 simp [encL]
theorem le8 {n i L:Nat} (h:i≤L) (hL:L≤10000000000) (hn:n≤12):n * i≤120000000000:=Nat.le_trans (Nat.mul_le_mul hn (Nat.le_trans h hL)) (by decide)
theorem f54_ev (T:List Int) (s:Int) (hs:sz48 s) (hT:(T.length:Int)≤10000000000) (K:List AV→Prop) (hK:K [.new (.bytes (encI s.toNat T))]):evSpec K0 Tryd.f54 [ii T,i64 s] K:=by
 obtain ⟨n,rfl,n4,n8⟩:=sz_nat hs
 rw [Int.toNat_natCast] at hK
 refine Eq.mpr (f54_in T n K) ?_
 have hb:=le8 (n:=n) (Nat.le_refl T.length) (by omega) (by omega)
 have ew:IntKind.wrap .i64 ((T.length:Int) * (n:Int)) = ((n * T.length:Nat):Int):=by rw [← Int.natCast_mul,Nat.mul_comm,wrap64 (by omega) (by omega)]
 rw [ew]
 refine ⟨by omega,by omega,by omega,by omega,?_⟩
 unfold LoopI
 refine loop_rule (fun i:Nat=>h54 T n (encI n (T.take i)) i) (fun i=>i≤T.length) (fun i=>T.length - i) (fun i hi K' hnorm hexit=>?_) rfl 0 p54i _ (Nat.zero_le _) (by kernel_rfl)
 rw [f54_lp]
 refine brn_intro (fun h=>?_) (fun h=>?_)
 ·simp only [decide_eq_true_eq] at h
  have hlt:i < T.length:=by omega
  have hl:(encI n (T.take i)).length = n * i:=by rw [encI_len,List.length_take,Nat.min_eq_left hi]
  have hb2:=le8 (n:=n) hi (by omega) (by omega)
  have hu:=u64_lt (T.getD i 0)
  have et:=encI_take n hlt
  simp only [inc (show i≤1000000000000 by omega),Int.toNat_natCast,wu64,List.nil_append,be_len,hl,← et]
  refine ⟨by omega,by omega,by simp,by omega,by omega,by omega,by omega,by omega,by omega,hnorm (i + 1) ⟨[],msk [1,5,13,14,15] 0 27,[0]⟩ _ hlt (by omega) (by kernel_rfl)⟩
 ·simp only [decide_eq_false_iff_not] at h
  have hi:i = T.length:=by omega
  have et:T.take i = T:=by rw [hi,List.take_length]
  rw [et]
  exact hexit _ _ (by simp) (Eq.mp (by kernel_rfl) hK)
theorem f58_ev (T:List Int) (s:Int) (hs:sz48 s) (hT:(T.length:Int)≤10000000000) (K:List AV→Prop) (hK:K [.new (.bytes (encI s.toNat T))]):evSpec K0 Tryd.f58 [ii T,i64 s] K:=by
 obtain ⟨n,rfl,n4,n8⟩:=sz_nat hs
 rw [Int.toNat_natCast] at hK
 refine Eq.mpr (f58_in T n K) ?_
 unfold LoopI
 refine loop_rule (fun i:Nat=>h58 T n (encI n (T.take i)) i) (fun i=>i≤T.length) (fun i=>T.length - i) (fun i hi K' hnorm hexit=>?_) rfl 0 p58i _ (Nat.zero_le _) (by kernel_rfl)
 rw [f58_lp]
 refine brn_intro (fun h=>?_) (fun h=>?_)
 ·simp only [decide_eq_true_eq] at h
  have hlt:i < T.length:=by omega
  have hl:(encI n (T.take i)).length = n * i:=by rw [encI_len,List.length_take,Nat.min_eq_left hi]
  have hb2:=le8 (n:=n) hi (by omega) (by omega)
  have hu:=u64_lt (T.getD i 0)
  have et:=encI_take n hlt
  simp only [inc (show i≤1000000000000 by omega),Int.toNat_natCast,wu64,hl,← et]
  refine ⟨by omega,by omega,by omega,by omega,by omega,by omega,by omega,hnorm (i + 1) ⟨[],msk [0,1,5,6] 0 22,[1]⟩ _ hlt (by omega) (by kernel_rfl)⟩
 ·simp only [decide_eq_false_iff_not] at h
  have hi:i = T.length:=by omega
  have et:T.take i = T:=by rw [hi,List.take_length]
  rw [et]
  exact hexit _ _ (by simp) (Eq.mp (by kernel_rfl) hK)
theorem f56_ev (L:List Lp) (hL:∀ t ∈ L,okLp t) (s:Int) (hs:sz48 s) (hT:(L.length:Int)≤10000000000) (K:List AV→Prop) (hK:K [.new (.bytes (encL s.toNat L))]):evSpec K0 Tryd.f56 [.imm (slL L),i64 s] K:=by
 obtain ⟨n,rfl,n4,n8⟩:=sz_nat hs
 rw [Int.toNat_natCast] at hK
 refine Eq.mpr (f56_in (L.map cellsL) n K) ?_
 unfold LoopI
 refine loop_rule (fun i:Nat=>h56 (L.map cellsL) n (encL n (L.take i)) i) (fun i=>i≤L.length) (fun i=>L.length - i) (fun i hi K' hnorm hexit=>?_) rfl 0 p56i _ (Nat.zero_le _) (by unfold h56; kernel_rfl)
 rw [f56_lp]
 simp only [List.length_map]
 refine brn_intro (fun h=>?_) (fun h=>?_)
 ·simp only [decide_eq_true_eq] at h
  have hlt:i < L.length:=by omega
  have hok:=hL _ (memD p0 hlt)
  have hl:(encL n (L.take i)).length = (n + 4) * i:=by rw [encL_len,List.length_take,Nat.min_eq_left hi]
  have hb2:=le8 (n:=n + 4) hi (by omega) (by omega)
  have et:=encL_take n hlt
  simp only [inc (show i≤1000000000000 by omega),Int.toNat_natCast,getL hlt,kL,aL,cL]
  generalize L.getD i p0 = t at hok et
  obtain ⟨q1,q2,q3,q4⟩:=hok
  have hu:=u64_lt t.a
  have hv:=u64_lt t.c
  have z4:Int.toNat 4 = 4:=rfl
  simp only [wu64,u64_ok q3 q4,Int.toNat_natCast,z4,hl,List.length_append,be_len,← et]
  refine ⟨by omega,by omega,True.intro,by omega,by omega,by omega,by omega,by omega,by omega,by omega,by omega,by omega,by omega,?_⟩
  exact hnorm (i + 1) ⟨[],msk [1,5,8,9,10] 0 28,[3]⟩ _ hlt (by omega) (by unfold h56; rw [List.length_map]; kernel_rfl)
 ·simp only [decide_eq_false_iff_not] at h
  have hi:i = L.length:=by omega
  have et:L.take i = L:=by rw [hi,List.take_length]
  rw [et]
  exact hexit _ _ (by simp) (Eq.mp (by kernel_rfl) hK)
theorem f60_ev (L:List Lp) (hL:∀ t ∈ L,okLp t) (s:Int) (hs:sz48 s) (hT:(L.length:Int)≤10000000000) (K:List AV→Prop) (hK:K [.new (.bytes (encL s.toNat L))]):evSpec K0 Tryd.f60 [.imm (slL L),i64 s] K:=by
 obtain ⟨n,rfl,n4,n8⟩:=sz_nat hs
 rw [Int.toNat_natCast] at hK
 refine Eq.mpr (f60_in (L.map cellsL) n K) ?_
 unfold LoopI
 refine loop_rule (fun i:Nat=>h60 (L.map cellsL) n (encL n (L.take i)) i) (fun i=>i≤L.length) (fun i=>L.length - i) (fun i hi K' hnorm hexit=>?_) rfl 0 p60i _ (Nat.zero_le _) (by kernel_rfl)
 rw [f60_lp]
 simp only [List.length_map]
 refine brn_intro (fun h=>?_) (fun h=>?_)
 ·simp only [decide_eq_true_eq] at h
  have hlt:i < L.length:=by omega
  have hok:=hL _ (memD p0 hlt)
  have hl:(encL n (L.take i)).length = (n + 4) * i:=by rw [encL_len,List.length_take,Nat.min_eq_left hi]
  have hb2:=le8 (n:=n + 4) hi (by omega) (by omega)
  have et:=encL_take n hlt
  simp only [inc (show i≤1000000000000 by omega),Int.toNat_natCast,getL hlt,kL,aL,cL]
  generalize L.getD i p0 = t at hok et
  obtain ⟨q1,q2,q3,q4⟩:=hok
  have hu:=u64_lt t.a
  have hv:=u64_lt t.c
  have z4:Int.toNat 4 = 4:=rfl
  have w:IntKind.wrap .i64 t.c = t.c:=wrap64 (by omega) (by omega)
  simp only [w,wu64,Int.toNat_natCast,z4,hl,List.length_append,be_len,← et]
  exact ⟨by omega,by omega,True.intro,by omega,by omega,by omega,by omega,by omega,by omega,by omega,True.intro,by omega,by omega,by omega,by omega,by omega,hnorm (i + 1) ⟨[],msk [0,1,5,6] 0 32,[2]⟩ _ hlt (by omega) (by kernel_rfl)⟩
 ·simp only [decide_eq_false_iff_not] at h
  have hi:i = L.length:=by omega
  have et:L.take i = L:=by rw [hi,List.take_length]
  rw [et]
  exact hexit _ _ (by simp) (Eq.mp (by kernel_rfl) hK)
def bO1 (x:Bool):UInt8:=if x then 1 else 0
theorem encO_eq (l:List Bool):encO l = l.map bO1:=rfl
theorem encO_next {l:List Bool} {i:Nat} (h:i < l.length):encO (l.take (i + 1)) = encO (l.take i) ++ [bO1 (l.getD i false)]:=by rw [takeS false h,encO_eq,encO_eq,List.map_append]; rfl
theorem encO_len (l:List Bool) {i:Nat} (h:i≤l.length):(encO (l.take i)).length = i:=by rw [encO_eq,List.length_map,List.length_take]; omega
def padO (l:List Bool) (i:Nat):List UInt8:=encO (l.take i) ++ List.replicate (l.length - i) 0
theorem padO_len (l:List Bool) {i:Nat} (h:i≤l.length):(padO l i).length = l.length:=by unfold padO; rw [List.length_append,encO_len l h,List.length_replicate]; omega
theorem padO_split {l:List Bool} {i:Nat} (h:i < l.length):padO l i = encO (l.take i) ++ (0 :: List.replicate (l.length - (i + 1)) 0):=by
 unfold padO
 rw [show l.length - i = (l.length - (i + 1)) + 1 by omega,List.replicate_succ]
theorem padO_next {l:List Bool} {i:Nat} (h:i < l.length):padO l (i + 1) = encO (l.take i) ++ (bO1 (l.getD i false) :: List.replicate (l.length - (i + 1)) 0):=by
 unfold padO
 rw [encO_next h,List.append_assoc]
 rfl
theorem f57_ev (l:List Bool) (hl:(l.length:Int)≤big') (K:List AV→Prop) (hK:K [.new (.bytes (encO l))]):evSpec K0 Tryd.f57 [oo l] K:=by
 have hbig:big' = 1000000000000:=rfl
 refine Eq.mpr (f57_in l K) ?_
 refine ⟨by omega,by omega,by omega,by omega,?_⟩
 unfold LoopI
 refine loop_rule (fun i:Nat=>h57 l (padO l i) i) (fun i=>i≤l.length) (fun i=>l.length - i) (fun i hi K' hnorm hexit=>?_) rfl 0 p57i _ (Nat.zero_le _) (by kernel_rfl)
 rw [f57_lp]
 refine brn_intro (fun h=>?_) (fun h=>?_)
 ·simp only [decide_eq_true_eq] at h
  have hlt:i < l.length:=by omega
  have hp:=padO_len l hi
  simp only [inc (show i≤1000000000000 by omega),Int.toNat_natCast]
  refine ⟨by omega,by omega,brn_intro (fun h2=>?_) (fun h2=>?_)⟩
  ·have es:List.set (padO l i) i (u8 1) = padO l (i + 1):=by
    rw [padO_split hlt,padO_next hlt,h2]
    have:=encO_len l hi
    rw [List.set_append_right _ _ (by omega),this,Nat.sub_self]
    rfl
   rw [es]
   exact ⟨by omega,by omega,hnorm (i + 1) ⟨[],msk [3,9,10,11] 0 22,[0]⟩ _ hlt (by omega) (by kernel_rfl)⟩
  ·have es:padO l i = padO l (i + 1):=by rw [padO_split hlt,padO_next hlt,h2]; rfl
   rw [es]
   exact hnorm (i + 1) ⟨[],msk [3,9,10,11] 0 22,[0]⟩ _ hlt (by omega) (by kernel_rfl)
 ·simp only [decide_eq_false_iff_not] at h
  have hi:i = l.length:=by omega
  have et:padO l i = encO l:=by unfold padO; rw [hi,List.take_length,Nat.sub_self]; simp
  rw [et]
  exact hexit _ _ (by simp) (Eq.mp (by kernel_rfl) hK)
theorem f61_ev (l:List Bool) (hl:(l.length:Int)≤big') (K:List AV→Prop) (hK:K [.new (.bytes (encO l))]):evSpec K0 Tryd.f61 [oo l] K:=by
 have hbig:big' = 1000000000000:=rfl
 refine Eq.mpr (f61_in l K) ?_
 unfold LoopI
 refine loop_rule (fun i:Nat=>h61 l (encO (l.take i)) i) (fun i=>i≤l.length) (fun i=>l.length - i) (fun i hi K' hnorm hexit=>?_) rfl 0 p61i _ (Nat.zero_le _) (by kernel_rfl)
 rw [f61_lp]
 refine brn_intro (fun h=>?_) (fun h=>?_)
 ·simp only [decide_eq_true_eq] at h
  have hlt:i < l.length:=by omega
  have hp:=encO_len l hi
  have hn:=encO_next hlt
  simp only [inc (show i≤1000000000000 by omega),Int.toNat_natCast]
  refine ⟨by omega,by omega,brn_intro (fun h2=>?_) (fun h2=>?_)⟩
  ·have es:encO (l.take i) ++ List.map u8 [1] = encO (l.take (i + 1)):=by rw [hn,h2]; rfl
   rw [es,hp]
   exact ⟨by simp; omega,by simp; omega,hnorm (i + 1) ⟨[],msk [0,3,4] 0 22,[0]⟩ _ hlt (by omega) (by kernel_rfl)⟩
  ·have es:encO (l.take i) ++ List.map u8 [0] = encO (l.take (i + 1)):=by rw [hn,h2]; rfl
   rw [es,hp]
   exact ⟨by simp; omega,by simp; omega,hnorm (i + 1) ⟨[],msk [0,3,4] 0 22,[0]⟩ _ hlt (by omega) (by kernel_rfl)⟩
 ·simp only [decide_eq_false_iff_not] at h
  have hi:i = l.length:=by omega
  have et:l.take i = l:=by rw [hi,List.take_length]
  rw [et]
  exact hexit _ _ (by simp) (Eq.mp (by kernel_rfl) hK)
theorem f52_ev (T:List Int) (n:Int) (hn:sz48 n) (hT:(T.length:Int)≤big) (K:List AV→Prop) (hK:K [bo (fitP T n)]):evSpec K1 Tryd.f52 [ii T,i64 n] K:=by
 have hbig:big = 4611686018427387904:=rfl
 refine Eq.mpr (f52_in T n K) ?_
 unfold LoopI
 refine loop_rule (fun i:Nat=>h52 T n i) (fun i=>i≤T.length∧(T.take i).all (fun v=>fitsP v n) = true) (fun i=>T.length - i) (fun i hP K' hnorm hexit=>?_) rfl 0 p52 _ ⟨Nat.zero_le _,rfl⟩ (by kernel_rfl)
 obtain ⟨hi,ha⟩:=hP
 rw [f52_lp]
 refine brn_intro (fun h=>?_) (fun h=>?_)
 ·simp only [decide_eq_true_eq] at h
  have hlt:i < T.length:=by omega
  simp only [incB (show i≤4611686018427387904 by omega),Int.toNat_natCast]
  refine ⟨by omega,by omega,hn,brn_intro (fun h2=>?_) (fun h2=>?_)⟩
  ·have hno:fitP T n = false:=by
    cases he:fitP T n with
    | false=>rfl
    | true=>unfold fitP at he; rw [List.all_eq_true] at he; rw [he _ (memD 0 hlt)] at h2; cases h2
   rw [hno] at hK
   exact hexit _ _ (by simp) (Eq.mp (by kernel_rfl) hK)
  ·have h2':fitsP (T.getD i 0) n = true:=by simpa using h2
   refine hnorm (i + 1) p52 _ ⟨hlt,?_⟩ (by omega) (by kernel_rfl)
   rw [takeS 0 hlt,List.all_append,ha]
   simpa using h2'
 ·simp only [decide_eq_false_iff_not] at h
  have hil:i = T.length:=by omega
  rw [hil,List.take_length] at ha
  have:fitP T n = true:=ha
  rw [this] at hK
  exact hexit _ _ (by simp) (Eq.mp (by kernel_rfl) hK)
end Z19
set_option maxRecDepth 100000
namespace D6
open Go Go.AE Go.Proofs
theorem ofNat_toNat (b:UInt8):UInt8.ofNat b.toNat = b:=by simp
theorem toNat_ofNat (n:Nat):(UInt8.ofNat (n % 256)).toNat = n % 256:=by simp
theorem beN_be:∀ (n v:Nat),beN (be n v) = v % 256 ^ n
 | 0,v=>by simp [be,beN,Nat.mod_one]
 | n + 1,v=>by
  rw [be,beN_app,beN_be n (v / 256),toNat_ofNat,Nat.pow_succ,Nat.mul_comm (256 ^ n) 256,Nat.mod_mul,Nat.mul_comm,Nat.add_comm]
theorem be_beN:∀ (n:Nat) (l:List UInt8),l.length = n→be n (beN l) = l
 | 0,l,h=>by
  have:l = []:=List.length_eq_zero_iff.1 h
  subst this; rfl
 | n + 1,l,h=>by
  have e:l = l.take n ++ [l.getD n 0]:=by
   rw [← takeS 0 (by omega),List.take_of_length_le (by omega)]
  have hb:=(l.getD n 0).toNat_lt
  have e1:beN l = beN (l.take n) * 256 + (l.getD n 0).toNat:=by rw [← beN_app,← e]
  rw [e1,be,show (beN (l.take n) * 256 + (l.getD n 0).toNat) / 256 = beN (l.take n) by omega,show (beN (l.take n) * 256 + (l.getD n 0).toNat) % 256 = (l.getD n 0).toNat by omega,ofNat_toNat,be_beN n (l.take n) (by rw [List.length_take]; omega),← e]
theorem be_mod (n v:Nat):be n v = be n (v % 256 ^ n):=by
 have:=be_beN n (be n v) (be_len n v)
 rw [beN_be] at this
 exact this.symm
theorem u64_sgn {u:Nat} (h:u < 256 ^ 4):u64 (sgnN 4 u) % 256 ^ 4 = u:=by
 unfold sgnN u64
 simp only [Nat.reducePow,Nat.reduceMul,Nat.reduceSub] at h ⊢
 split <;> omega
theorem enc1_recB {b:List UInt8} (h6:6≤b.length) (hf:(b.getD 4 0).toNat≤1):enc1 (recB b) = b.take 6:=by
 have hlt:beN (b.take 4) < 256 ^ 4:=by
  have:=beN_lt (b.take 4)
  rw [List.length_take,Nat.min_eq_left (by omega)] at this
  exact this
 have e1:be 4 (u64 (sgnN 4 (beN (b.take 4)))) = b.take 4:=by
  rw [be_mod,u64_sgn hlt,be_beN 4 _ (by rw [List.length_take]; omega)]
 have e2:(if (b.getD 4 0 == 1) = true then (1:UInt8) else 0) = b.getD 4 0:=by
  split
  ·rename_i h; exact (by simpa using h:b.getD 4 0 = 1).symm
  ·rename_i h
   have h1:b.getD 4 0≠1:=by simpa using h
   refine UInt8.toNat_inj.1 ?_
   have h2:(b.getD 4 0).toNat≠1:=fun e=>h1 (UInt8.toNat_inj.1 (by rw [e]; rfl))
   have h3:(0:UInt8).toNat = 0:=rfl
   omega
 have e3:u8 ((b.getD 5 0).toNat:Int) = b.getD 5 0:=by
  unfold u8
  rw [Int.toNat_natCast,ofNat_toNat]
 unfold enc1 recB
 simp only [e1,e3]
 rw [takeS (i:=5) 0 (by omega),takeS (i:=4) 0 (by omega),List.append_assoc]
 simp only [e2]
 rfl
theorem enc_recs {b:List UInt8}:∀ k,6 * k≤b.length→flags b k = true→enc (recs b k) = b.take (6 * k)
 | 0,_,_=>rfl
 | k + 1,hk,hf=>by
  rw [flags,Bool.and_eq_true,decide_eq_true_eq] at hf
  have h1:=enc_recs (b:=b) k (by omega) hf.1
  have h2:=enc1_recB (b:=b.drop (6 * k)) (by rw [List.length_drop]; omega) (by rw [getD_drop']; exact hf.2)
  rw [recs,enc_app,h1,show enc [recB (b.drop (6 * k))] = enc1 (recB (b.drop (6 * k))) from by rw [enc,enc,List.append_nil],h2,show 6 * (k + 1) = 6 * k + 6 by omega,List.take_add]
theorem enc_dec {b:List UInt8} (h6:b.length % 6 = 0) (hok:decOk b = true):enc (dec b) = b:=by
 unfold decOk at hok
 unfold dec
 rw [hok,if_pos rfl,enc_recs _ (by omega) hok,List.take_of_length_le (by omega)]
end D6
namespace Z19
open Go Go.AE Go.Proofs D6
def inN (n:Nat) (t:Int):Prop:=(n = 4∧-2147483648≤t∧t < 2147483648)∨(n = 8∧-9223372036854775808≤t∧t < 9223372036854775808)
theorem u64_sgnN {n u:Nat} (hn:n = 4∨n = 8) (h:u < 256 ^ n):u64 (sgnN n u) % 256 ^ n = u:=by
 rcases hn with rfl | rfl
 ·exact u64_sgn h
 ·unfold sgnN u64
  simp only [Nat.reducePow,Nat.reduceMul,Nat.reduceSub] at h ⊢
  split <;> omega
theorem sgnN_in {n u:Nat} (hn:n = 4∨n = 8) (h:u < 256 ^ n):inN n (sgnN n u):=by
 rcases hn with rfl | rfl
 ·have:=sgn4 h
  exact .inl ⟨rfl,this.1,by omega⟩
 ·refine .inr ⟨rfl,?_⟩
  unfold sgnN
  simp only [Nat.reducePow,Nat.reduceMul,Nat.reduceSub] at h ⊢
  split <;> omega
theorem beN_ltT {n:Nat} {b:List UInt8} (h:n≤b.length):beN (b.take n) < 256 ^ n:=by
 have:=beN_lt (b.take n)
 rwa [List.length_take,Nat.min_eq_left h] at this
theorem be_take_eq {n:Nat} {b:List UInt8} (hn:n = 4∨n = 8) (h:n≤b.length):be n (u64 (sgnN n (beN (b.take n)))) = b.take n:=by
 rw [be_mod,u64_sgnN hn (beN_ltT h)]
 exact be_beN n _ (by rw [List.length_take]; omega)
theorem encI_decI {n:Nat} {b:List UInt8} (hn:n = 4∨n = 8):∀ k,n * k≤b.length→encI n (decI b n k) = b.take (n * k)
 | 0,_=>by simp [decI,encI]
 | k + 1,hk=>by
  rw [Nat.mul_succ] at hk
  have:n≤(b.drop (n * k)).length:=by rw [List.length_drop]; omega
  rw [decI,encI_app,encI_decI hn k (by omega),encI,encI,List.append_nil,numAt,be_take_eq hn this,Nat.mul_succ,List.take_add]
theorem encL_decL {n:Nat} {b:List UInt8} (hn:n = 4∨n = 8):∀ k,(n + 4) * k≤b.length→encL n (decL b n k) = b.take ((n + 4) * k)
 | 0,_=>by simp [decL,encL]
 | k + 1,hk=>by
  rw [Nat.mul_succ] at hk
  have h1:n≤(b.drop ((n + 4) * k)).length:=by rw [List.length_drop]; omega
  have h2:4≤(b.drop ((n + 4) * k + n)).length:=by rw [List.length_drop]; omega
  rw [decL,encL_app,encL_decL hn k (by omega),encL,encL,List.append_nil,lpAt]
  simp only
  rw [be_take_eq hn h1,be_take_eq (.inl rfl) h2,Nat.mul_succ,List.take_add,← List.drop_drop,← List.take_add]
theorem encO_decO {b:List UInt8} (h:indOk b = true):encO (decO b) = b:=by
 unfold decO
 rw [h,if_pos rfl]
 unfold encO
 rw [List.map_map]
 conv=>rhs; rw [← List.map_id b]
 apply List.map_congr_left
 intro x hx
 unfold indOk at h
 rw [List.all_eq_true] at h
 have:=h x hx
 simp only [decide_eq_true_eq] at this
 show (if (x == 1) = true then (1:UInt8) else 0) = x
 by_cases hx1:x = 1
 ·subst hx1; rfl
 ·have:x.toNat = 0:=by
   have:x.toNat≠1:=fun e=>hx1 (UInt8.toNat_inj.1 e)
   omega
  have:x = 0:=UInt8.toNat_inj.1 this
  subst this; rfl
theorem decI_in {n:Nat} {b:List UInt8} (hn:n = 4∨n = 8):∀ k,n * k≤b.length→∀ t ∈ decI b n k,inN n t
 | 0,_,t,ht=>by cases ht
 | k + 1,hk,t,ht=>by
  rw [Nat.mul_succ] at hk
  rw [decI,List.mem_append] at ht
  rcases ht with ht | ht
  ·exact decI_in hn k (by omega) t ht
  ·rw [List.mem_singleton] at ht
   subst ht
   exact sgnN_in hn (beN_ltT (by rw [List.length_drop]; omega))
theorem decL_in {n:Nat} {b:List UInt8} (hn:n = 4∨n = 8):∀ k,(n + 4) * k≤b.length→∀ t ∈ decL b n k,inN n t.a∧inN 4 t.c
 | 0,_,t,ht=>by cases ht
 | k + 1,hk,t,ht=>by
  rw [Nat.mul_succ] at hk
  rw [decL,List.mem_append] at ht
  rcases ht with ht | ht
  ·exact decL_in hn k (by omega) t ht
  ·rw [List.mem_singleton] at ht
   subst ht
   exact ⟨sgnN_in hn (beN_ltT (by rw [List.length_drop]; omega)),sgnN_in (.inl rfl) (beN_ltT (by rw [List.length_drop]; omega))⟩
end Z19
namespace Z19
open Go Go.AE Go.Proofs D6
structure Fits (h:Hd) (T:List Int) (I:List UInt8) (X:List Ty) (C:List UInt8) (L:List Lp) (S U:List Bool):Prop where
 t:h.t = T.length
 i:h.t = I.length
 ty:h.ty = X.length
 c:h.c = C.length
 l:h.l = L.length
 is:h.is = S.length
 iu:h.iu = U.length
section
variable {h:Hd} {T:List Int} {I:List UInt8} {X:List Ty} {C:List UInt8} {L:List Lp} {S U:List Bool} {n:Nat}
theorem div_mul (n k:Nat) (hn:0 < n):n * k / n = k:=by rw [Nat.mul_comm,Nat.mul_div_cancel _ hn]
end
theorem enc_decB {D:List UInt8} {h:Hd} {n:Nat} (hh:okH h) (hn:n = 4∨n = 8) (hD:sumU h n≤D.length) (hok:okD D h n = true) :
  encB (decB D h n).T (decB D h n).I (decB D h n).X (decB D h n).C (decB D h n).L (decB D h n).S (decB D h n).U n = D.take (sumU h n).toNat ∧
  Fits h (decB D h n).T (decB D h n).I (decB D h n).X (decB D h n).C (decB D h n).L (decB D h n).S (decB D h n).U ∧
  (∀ t ∈ (decB D h n).T,inN n t)∧(∀ t ∈ (decB D h n).X,okTy t)∧(∀ t ∈ (decB D h n).L,inN n t.a∧inN 4 t.c):=by
 have hs:sz48 (n:Int):=by rcases hn with rfl | rfl; exact .inl rfl; exact .inr rfl
 obtain ⟨q0,q1,q2,q3,q4,q5,q6,q7⟩:=sum_pos hh hs
 have hsum:sumU h n = l0 h n + l1 h + l2 h + l3 h + l4 h n + l5 h + l6 h:=rfl
 have e1:o1 h n = l0 h n:=rfl
 have e2:o2 h n = o1 h n + l1 h:=rfl
 have e3:o3 h n = o2 h n + l2 h:=rfl
 have e4:o4 h n = o3 h n + l3 h:=rfl
 have e5:o5 h n = o4 h n + l4 h n:=rfl
 have e6:o6 h n = o5 h n + l5 h:=rfl
 have m0:((b0 D h n).length:Int) = l0 h n:=pt_len D (by omega) q0 (by omega)
 have m1:((b1 D h n).length:Int) = l1 h:=pt_len D (by omega) q1 (by omega)
 have m2:((b2 D h n).length:Int) = l2 h:=pt_len D (by omega) q2 (by omega)
 have m3:((b3 D h n).length:Int) = l3 h:=pt_len D (by omega) q3 (by omega)
 have m4:((b4 D h n).length:Int) = l4 h n:=pt_len D (by omega) q4 (by omega)
 have m5:((b5 D h n).length:Int) = l5 h:=pt_len D (by omega) q5 (by omega)
 have m6:((b6 D h n).length:Int) = l6 h:=pt_len D (by omega) q6 (by omega)
 have hok':decOk (b2 D h n) = true∧indOk (b5 D h n) = true∧indOk (b6 D h n) = true:=by
  unfold okD at hok
  simp only [Bool.and_eq_true] at hok
  exact ⟨hok.1.1,hok.1.2,hok.2⟩
 obtain ⟨k2,k5,k6⟩:=hok'
 obtain ⟨⟨ht0,_⟩,⟨_,_⟩,⟨hl0,_⟩,⟨ht0',_⟩,⟨hy0,_⟩,_⟩:=hh
 obtain ⟨ht,hht⟩:=Int.eq_ofNat_of_zero_le ht0'
 obtain ⟨hl,hhl⟩:=Int.eq_ofNat_of_zero_le hl0
 obtain ⟨hy,hhy⟩:=Int.eq_ofNat_of_zero_le hy0
 have z0:(b0 D h n).length = n * ht:=by
  have:l0 h n = ((n * ht:Nat):Int):=by rw [l0,hht,Nat.mul_comm,Int.natCast_mul]
  omega
 have z4:(b4 D h n).length = (n + 4) * hl:=by
  have:l4 h n = (((n + 4) * hl:Nat):Int):=by rw [l4,hhl,Nat.mul_comm,Int.natCast_mul,Int.natCast_add]; rfl
  omega
 have z2:(b2 D h n).length = 6 * hy:=by
  have:l2 h = 6 * h.ty:=rfl
  omega
 have n0:0 < n:=by omega
 have i0:encI n (tI (b0 D h n) n) = b0 D h n:=by
  unfold tI
  rw [Int.toNat_natCast,z0,div_mul _ _ n0,encI_decI hn _ (by omega),← z0,List.take_length]
 have i4:encL n (tL (b4 D h n) n) = b4 D h n:=by
  unfold tL
  rw [Int.toNat_natCast,z4,div_mul _ _ (by omega),encL_decL hn _ (by omega),← z4,List.take_length]
 have i2:enc (dec (b2 D h n)) = b2 D h n:=enc_dec (by omega) k2
 have ld:(dec (b2 D h n)).length = hy:=by
  have:=enc_len (dec (b2 D h n))
  rw [i2] at this
  omega
 refine ⟨?_,⟨?_,?_,?_,?_,?_,?_,?_⟩,?_,?_,?_⟩
 ·show encB (tI (b0 D h n) n) (b1 D h n) (dec (b2 D h n)) (b3 D h n) (tL (b4 D h n) n) (decO (b5 D h n)) (decO (b6 D h n)) n = _
  unfold encB
  rw [i0,i4,i2,encO_decO k5,encO_decO k6]
  have cut:∀ (x y:Int),0≤x→0≤y→D.take (x + y).toNat = D.take x.toNat ++ pt D x y:=by
   intro x y hx hy
   rw [show (x + y).toNat = x.toNat + y.toNat by omega,List.take_add]
   rfl
  have s1:D.take (o1 h n).toNat = b0 D h n:=by
   unfold b0 pt
   rw [e1]
   simp
  have s2:=cut (o1 h n) (l1 h) (by omega) (by omega)
  have s3:=cut (o2 h n) (l2 h) (by omega) (by omega)
  have s4:=cut (o3 h n) (l3 h) (by omega) (by omega)
  have s5:=cut (o4 h n) (l4 h n) (by omega) (by omega)
  have s6:=cut (o5 h n) (l5 h) (by omega) (by omega)
  have s7:=cut (o6 h n) (l6 h) (by omega) (by omega)
  have e7:o6 h n + l6 h = sumU h n:=by omega
  rw [e7] at s7
  rw [s7,← e6,s6,← e5,s5,← e4,s4,← e3,s3,← e2,s2,s1] at *
  simp only [List.append_assoc]
  rfl
 ·show h.t = ((tI (b0 D h n) n).length:Int)
  unfold tI
  rw [decI_len,Int.toNat_natCast,z0,div_mul _ _ n0,hht]
 ·show h.t = ((b1 D h n).length:Int)
  rw [m1]; rfl
 ·show h.ty = ((dec (b2 D h n)).length:Int)
  rw [ld,hhy]
 ·show h.c = ((b3 D h n).length:Int)
  rw [m3]; rfl
 ·show h.l = ((tL (b4 D h n) n).length:Int)
  unfold tL
  rw [decL_len,Int.toNat_natCast,z4,div_mul _ _ (by omega),hhl]
 ·show h.is = ((decO (b5 D h n)).length:Int)
  unfold decO
  rw [k5,if_pos rfl,List.length_map,m5]; rfl
 ·show h.iu = ((decO (b6 D h n)).length:Int)
  unfold decO
  rw [k6,if_pos rfl,List.length_map,m6]; rfl
 ·show ∀ t ∈ tI (b0 D h n) n,inN n t
  unfold tI
  rw [Int.toNat_natCast,z0,div_mul _ _ n0]
  exact decI_in hn _ (by omega)
 ·exact dec_ok
 ·show ∀ t ∈ tL (b4 D h n) n,_
  unfold tL
  rw [Int.toNat_natCast,z4,div_mul _ _ (by omega)]
  exact decL_in hn _ (by omega)
end Z19
set_option maxRecDepth 100000
namespace Z19
open Go Go.AE Go.Proofs D6
attribute [local irreducible] loopK evCode evSpec loopB norm
theorem f23_ev (d:List UInt8) (K:List AV→Prop) (hK:K [curAV d 0 0 0]):evSpec K0 Tryd.f23 [by' d] K:=Eq.mpr (f23_in d K) hK
theorem f26_ev (d:List UInt8) (p e a:Int) (h:okU ⟨d,p,e,a⟩) (K:List AV→Prop) (hK:K [i64 (restU ⟨d,p,e,a⟩)]):evSpec K0 Tryd.f26 [curAV d p e a] K:=by
 obtain ⟨h0,h1,h2⟩:=h
 simp only at h0 h1 h2
 refine Eq.mpr (f26_in d p e a K) (brn_intro (fun h=>?_) (fun h=>?_))
 ·have he:¬ e = 0:=by simpa using h
  unfold restU at hK
  rw [if_neg he] at hK
  exact hK
 ·have he:e = 0:=by simpa using h
  unfold restU at hK
  rw [if_pos he] at hK
  rw [wrap64 (by omega) (by omega)]
  exact hK
theorem f27_ev (d:List UInt8) (p e a w t:Int) (K:List AV→Prop) (hK:K [(failU ⟨d,p,e,a⟩ w t).av]):evSpec K0 Tryd.f27 [curAV d p e a,i64 w,i64 t] K:=by
 refine Eq.mpr (f27_in d p e a w t K) (brn_intro (fun h=>?_) (fun h=>?_))
 ·have he:e = 0∧w≠0:=by simpa using h
  unfold failU at hK
  rw [if_pos he] at hK
  exact hK
 ·have he:¬ (e = 0∧w≠0):=by
   rintro ⟨q1,q2⟩
   simp [q1,q2] at h
  unfold failU at hK
  rw [if_neg he] at hK
  exact hK
theorem f35_ev (d:List UInt8) (p e a w t:Int) (K:List AV→Prop) (hK:K [(failU ⟨d,p,e,a⟩ w t).av]):evSpec K0 Tryd.f35 [curAV d p e a,i64 w,i64 t] K:=by
 refine Eq.mpr (f35_in d p e a w t K) (brn_intro (fun h=>?_) (fun h=>?_))
 ·have he:¬ (e = 0∧w≠0):=by
   rintro ⟨q1,q2⟩
   simp [q1,q2] at h
  unfold failU at hK
  rw [if_neg he] at hK
  exact hK
 ·have he:e = 0∧w≠0:=by simpa using h
  unfold failU at hK
  rw [if_pos he] at hK
  exact hK
theorem f11_ev (w:Bool) (K:List AV→Prop) (hK:K [i64 (if w then 8 else 4)]):evSpec K0 Tryd.f11 [bo w] K:=by
 refine Eq.mpr (f11_in w K) ?_
 cases w <;> exact hK
theorem f9_ev (d:List UInt8) (p e a:Int) (K:List AV→Prop) (hK:K [bo (validC ⟨d,p,e,a⟩)]):evSpec K0 Tryd.f9 [curAV d p e a] K:=by
 refine Eq.mpr (f9_in d p e a K) ?_
 have e1:(e != 0 || a == 0) = (!decide (e = 0) || decide (a = 0)):=by
  cases h1:decide (e = 0) <;> cases h2:decide (a = 0) <;> simp_all
 rw [e1]
 exact hK
theorem f10_ev (T:List Int) (I:List UInt8) (X:List (List IV)) (C:List UInt8) (L:List (List IV)) (S U:List Bool) (K:List AV→Prop) (hK:K [bo (fewB T I X C L S U)]):evSpec K0 Tryd.f10 [blkAV T I X C L S U] K:=by
 refine Eq.mpr (f10_in T I X C L S U K) ?_
 have e1:∀ n:Nat,decide ((n:Int)≤200) = decide (n≤200):=fun n=>decide_eq_decide.2 (by omega)
 have e2:∀ n:Nat,decide ((n:Int)≤600) = decide (n≤600):=fun n=>decide_eq_decide.2 (by omega)
 simp only [e1,e2]
 exact hK
theorem f16_ev (T:List Int) (I:List UInt8) (X:List (List IV)) (C:List UInt8) (L:List (List IV)) (S U:List Bool) (v:Int) (K:List AV→Prop) (hK:K [(hdOf T X C L S U v).av]):evSpec K0 Tryd.f16 [blkAV T I X C L S U,i64 v] K:=Eq.mpr (f16_in T I X C L S U v K) hK
theorem f17_ev (T:List Int) (I:List UInt8) (X:List (List IV)) (C:List UInt8) (L:List (List IV)) (S U:List Bool) (v:Int) (K:List AV→Prop) (hK:K [(hdOf T X C L S U v).av]):evSpec K0 Tryd.f17 [blkAV T I X C L S U,i64 v] K:=Eq.mpr (f17_in T I X C L S U v K) hK
theorem f36_ev (h:Hd) (hh:okH h) (s:Int) (hs:sz48 s) (K:List AV→Prop) (hK:K [.agg [u6 (l0 h s),u6 (l1 h),u6 (l2 h),u6 (l3 h),u6 (l4 h s),u6 (l5 h),u6 (l6 h)]]):evSpec K0 Tryd.f36 [h.av,i64 s] K:=by
 obtain ⟨v,iu,is,l,t,ty,c⟩:=h
 obtain ⟨⟨a1,a2⟩,⟨b1,b2⟩,⟨c1,c2⟩,⟨d1,d2⟩,⟨e1,e2⟩,⟨f1,f2⟩⟩:=hh
 simp only at a1 a2 b1 b2 c1 c2 d1 d2 e1 e2 f1 f2
 refine Eq.mpr (f36_in v iu is l t ty c s K) ?_
 have hs1:4≤s∧s≤8:=by rcases hs with rfl | rfl <;> decide
 have g1:0≤t * s∧t * s < 18446744073709551616:=⟨Int.mul_nonneg d1 (by omega),by rcases hs with rfl | rfl <;> omega⟩
 have g2:0≤l * (s + 4)∧l * (s + 4) < 18446744073709551616:=⟨Int.mul_nonneg c1 (by omega),by rcases hs with rfl | rfl <;> omega⟩
 rw [wrapU (n:=t) d1 (by omega),wrapU (n:=s) (by omega) (by omega),wrapU (n:=t * s) g1.1 g1.2,wrapU (n:=ty) e1 (by omega),wrapU (n:=6 * ty) (by omega) (by omega),wrapU (n:=c) f1 (by omega),wrapU (n:=l) c1 (by omega),
  wrapU (n:=s + 4) (by omega) (by omega),wrapU (n:=l * (s + 4)) g2.1 g2.2,wrapU (n:=is) b1 (by omega),wrapU (n:=iu) a1 (by omega)]
 exact hK
theorem f74_ev (a b m:Int) (a0:0≤a) (a1:a≤4294967295) (b0:0≤b) (b1:b≤4294967295) (K:List AV→Prop) (hK:K [u6 (mulU a b m),bo (decide (a * b≤m))]):evSpec K1 Tryd.f74 [u6 a,u6 b,u6 m] K:=by
 refine Eq.mpr (f74_in a b m K) ⟨a0,a1,b0,b1,brn_intro (fun h=>?_) (fun h=>?_)⟩
 ·have h:¬ a * b≤m:=by
   simp only [bne_self_eq_false,Bool.false_or,decide_eq_true_eq] at h; omega
  unfold mulU at hK
  rw [if_neg h,decide_eq_false h] at hK
  exact hK
 ·have h:a * b≤m:=by
   simp only [bne_self_eq_false,Bool.false_or,decide_eq_false_iff_not] at h; omega
  unfold mulU at hK
  rw [if_pos h,decide_eq_true h] at hK
  exact hK
theorem f64_ev (d:List UInt8) (p e a n:Int) (hu:okU ⟨d,p,e,a⟩) (K:List AV→Prop) (hK:K [(advU ⟨d,p,e,a⟩ n).av,bo (advOk ⟨d,p,e,a⟩ n)]):evSpec K1 Tryd.f64 [curAV d p e a,i64 n] K:=by
 obtain ⟨h0,h1,h2⟩:=hu
 simp only at h0 h1 h2
 refine Eq.mpr (f64_in d p e a n K) (brn_intro (fun h=>?_) (fun h=>?_))
 ·have he:¬ e = 0:=by simpa using h
  unfold advU advOk at hK
  rw [if_neg he,decide_eq_false (fun q=>he q.1)] at hK
  exact hK
 ·have he:e = 0:=by simpa using h
  subst he
  refine ⟨fun _=>⟨h0,h1,h2⟩,brn_intro (fun h=>?_) (fun h=>?_)⟩
  ·have h:¬ (0≤n∧n≤restU ⟨d,p,0,a⟩):=by
    simp only [Bool.or_eq_true,decide_eq_true_eq] at h; omega
   unfold advU advOk at hK
   rw [if_pos rfl,if_neg h,decide_eq_false (fun q=>h q.2)] at hK
   exact hK
  ·have h:0≤n∧n≤restU ⟨d,p,0,a⟩:=by
    simp only [Bool.or_eq_false_iff,decide_eq_false_iff_not] at h; omega
   unfold advU advOk at hK
   rw [if_pos rfl,if_pos h,decide_eq_true ⟨rfl,h⟩] at hK
   have hr:restU ⟨d,p,0,a⟩ = (d.length:Int) - p:=by unfold restU; rw [if_pos rfl]
   rw [hr] at h
   rw [wrap64 (by omega) (by omega)]
   exact hK
theorem sameK_eq (T:List Int) (I:List UInt8) (X:List (List IV)) (C:List UInt8) (L:List (List IV)) (S U:List Bool) (T':List Int) (I':List UInt8) (X':List (List IV)) (C':List UInt8) (L':List (List IV)) (S' U':List Bool) :
  (decide (T = T') && decide (I = I') && decide (tys X = tys X') && decide (C = C') && decide (lps L = lps L') && decide (S = S') && decide (U = U')) = sameK T I X C L S U T' I' X' C' L' S' U':=by
 unfold sameK
 simp only [Bool.and_assoc]
theorem f14_ev (T:List Int) (I:List UInt8) (X:List (List IV)) (C:List UInt8) (L:List (List IV)) (S U:List Bool) (T':List Int) (I':List UInt8) (X':List (List IV)) (C':List UInt8) (L':List (List IV)) (S' U':List Bool) (h:okB T I X C L S U) (h':okB T' I' X' C' L' S' U')
  (K:List AV→Prop) (hK:K [bo (sameK T I X C L S U T' I' X' C' L' S' U')]):evSpec K1 Tryd.f14 [blkAV T I X C L S U,blkAV T' I' X' C' L' S' U'] K:=by
 obtain ⟨a1,a2,a3,a4,a5,a6,a7,a8,a9⟩:=h
 obtain ⟨b1,b2,b3,b4,b5,b6,b7,b8,b9⟩:=h'
 have hbig:big' = 1000000000000:=rfl
 have hbig2:big = 4611686018427387904:=rfl
 refine Eq.mpr (f14_in T I X C L S U T' I' X' C' L' S' U' K) ?_
 rw [sameK_eq]
 exact ⟨a3,b3,fun _=>by omega,fun _=>by omega,fun _=>a1,fun _=>b1,fun _=>by omega,fun _=>by omega,fun _=>by omega,fun _=>by omega,fun _=>a2,fun _=>b2,fun _=>a7,fun _=>b7,fun _=>a8,fun _=>b8,fun _=>a9,fun _=>b9,hK⟩
theorem f18_ev (T:List Int) (I:List UInt8) (X:List (List IV)) (C:List UInt8) (L:List (List IV)) (S U:List Bool) (T':List Int) (I':List UInt8) (X':List (List IV)) (C':List UInt8) (L':List (List IV)) (S' U':List Bool) (h:okB T I X C L S U) (h':okB T' I' X' C' L' S' U')
  (K:List AV→Prop) (hK:K [bo (sameK T I X C L S U T' I' X' C' L' S' U')]):evSpec K1 Tryd.f18 [blkAV T I X C L S U,blkAV T' I' X' C' L' S' U'] K:=by
 obtain ⟨a1,a2,a3,a4,a5,a6,a7,a8,a9⟩:=h
 obtain ⟨b1,b2,b3,b4,b5,b6,b7,b8,b9⟩:=h'
 have hbig:big' = 1000000000000:=rfl
 have hbig2:big = 4611686018427387904:=rfl
 refine Eq.mpr (f18_in T I X C L S U T' I' X' C' L' S' U' K) ?_
 rw [sameK_eq]
 exact ⟨a3,b3,fun _=>by omega,fun _=>by omega,fun _=>a1,fun _=>b1,fun _=>by omega,fun _=>by omega,fun _=>by omega,fun _=>by omega,fun _=>a2,fun _=>b2,fun _=>a7,fun _=>b7,fun _=>a8,fun _=>b8,fun _=>a9,fun _=>b9,hK⟩
theorem f65_ev (h:Hd) (hh:okH h) (s:Int) (hs:sz48 s) (K:List AV→Prop) (hK:K [.agg [u6 (l0 h s),u6 (l1 h),u6 (l2 h),u6 (l3 h),u6 (l4 h s),u6 (l5 h),u6 (l6 h)]]):evSpec K1u Tryd.f65 [h.av,i64 s] K:=by
 obtain ⟨v,iu,is,l,t,ty,c⟩:=h
 obtain ⟨⟨a1,a2⟩,⟨b1,b2⟩,⟨c1,c2⟩,⟨d1,d2⟩,⟨e1,e2⟩,⟨f1,f2⟩⟩:=hh
 simp only at a1 a2 b1 b2 c1 c2 d1 d2 e1 e2 f1 f2
 refine Eq.mpr (f65_in v iu is l t ty c s K) ?_
 have hs1:4≤s∧s≤8:=by rcases hs with rfl | rfl <;> decide
 have g1:0≤t * s∧t * s < 18446744073709551616:=⟨Int.mul_nonneg d1 (by omega),by rcases hs with rfl | rfl <;> omega⟩
 have g2:0≤l * (s + 4)∧l * (s + 4) < 18446744073709551616:=⟨Int.mul_nonneg c1 (by omega),by rcases hs with rfl | rfl <;> omega⟩
 simp only [wrapU (n:=t) d1 (by omega),wrapU (n:=s) (by omega) (by omega),wrapU (n:=t * s) g1.1 g1.2,wrapU (n:=ty) e1 (by omega),wrapU (n:=c) f1 (by omega),wrapU (n:=l) c1 (by omega),
  wrapU (n:=s + 4) (by omega) (by omega),wrapU (n:=l * (s + 4)) g2.1 g2.2,wrapU (n:=is) b1 (by omega),wrapU (n:=iu) a1 (by omega),Int.mul_one,wrapU (n:=ty * 6) (by omega) (by omega)]
 rw [Int.mul_comm ty 6]
 exact hK
theorem lens_bound {h:Hd} (hh:okH h) {s:Int} (hs:sz48 s):(0≤l0 h s∧l0 h s≤34359738360)∧(0≤l1 h∧l1 h≤4294967295)∧(0≤l2 h∧l2 h≤25769803770)∧(0≤l3 h∧l3 h≤4294967295)∧(0≤l4 h s∧l4 h s≤51539607540) ∧
  (0≤l5 h∧l5 h≤4294967295)∧(0≤l6 h∧l6 h≤4294967295):=by
 obtain ⟨⟨a1,a2⟩,⟨b1,b2⟩,⟨c1,c2⟩,⟨d1,d2⟩,⟨e1,e2⟩,⟨f1,f2⟩⟩:=hh
 unfold l0 l1 l2 l3 l4 l5 l6
 rcases hs with rfl | rfl <;> omega
theorem f24_ev (h:Hd) (hh:okH h) (s:Int) (hs:sz48 s) (K:List AV→Prop) (hK:K [u6 (sumU h s)]):evSpec K1u Tryd.f24 [h.av,i64 s] K:=by
 obtain ⟨⟨a1,a2⟩,⟨b1,b2⟩,⟨c1,c2⟩,⟨d1,d2⟩,⟨e1,e2⟩,⟨f1,f2⟩,⟨g1,g2⟩⟩:=lens_bound hh hs
 refine Eq.mpr (f24_in h.v h.iu h.is h.l h.t h.ty h.c s K) ⟨hh,hs,?_⟩
 have eh:Hd.mk h.v h.iu h.is h.l h.t h.ty h.c = h:=rfl
 rw [eh,Int.zero_add]
 unfold sumU at hK
 rw [wrapU (n:=l0 h s) (by omega) (by omega),wrapU (n:=l0 h s + l1 h) (by omega) (by omega),wrapU (n:=l0 h s + l1 h + l2 h) (by omega) (by omega),wrapU (n:=l0 h s + l1 h + l2 h + l3 h) (by omega) (by omega),
  wrapU (n:=l0 h s + l1 h + l2 h + l3 h + l4 h s) (by omega) (by omega),wrapU (n:=l0 h s + l1 h + l2 h + l3 h + l4 h s + l5 h) (by omega) (by omega),wrapU (n:=l0 h s + l1 h + l2 h + l3 h + l4 h s + l5 h + l6 h) (by omega) (by omega)]
 exact hK
theorem f29_ev (h:Hd) (hh:okH h) (s:Int) (hs:sz48 s) (K:List AV→Prop) (hK:K [.agg [u6 0,u6 (o1 h s),u6 (o2 h s),u6 (o3 h s),u6 (o4 h s),u6 (o5 h s),u6 (o6 h s),u6 (o7 h s)]]):evSpec K2u Tryd.f29 [h.av,i64 s] K:=by
 obtain ⟨⟨a1,a2⟩,⟨b1,b2⟩,⟨c1,c2⟩,⟨d1,d2⟩,⟨e1,e2⟩,⟨f1,f2⟩,⟨g1,g2⟩⟩:=lens_bound hh hs
 refine Eq.mpr (f29_in h.v h.iu h.is h.l h.t h.ty h.c s K) ⟨hh,hs,?_⟩
 have eh:Hd.mk h.v h.iu h.is h.l h.t h.ty h.c = h:=rfl
 simp only [eh,Int.zero_add]
 unfold o7 o6 o5 o4 o3 o2 o1 at hK
 simp only [wrapU (n:=l0 h s) (by omega) (by omega),wrapU (n:=l0 h s + l1 h) (by omega) (by omega),wrapU (n:=l0 h s + l1 h + l2 h) (by omega) (by omega),wrapU (n:=l0 h s + l1 h + l2 h + l3 h) (by omega) (by omega),
  wrapU (n:=l0 h s + l1 h + l2 h + l3 h + l4 h s) (by omega) (by omega),wrapU (n:=l0 h s + l1 h + l2 h + l3 h + l4 h s + l5 h) (by omega) (by omega),wrapU (n:=l0 h s + l1 h + l2 h + l3 h + l4 h s + l5 h + l6 h) (by omega) (by omega)]
 exact hK
theorem dup {p:Prop} (h:p):p∧p:=⟨h,h⟩
theorem mulU_b (x y m:Int) (h:0≤x * y) (m1:m≤18446744073709551615):0≤mulU x y m∧mulU x y m≤18446744073709551615:=by unfold mulU; split <;> omega
theorem stepT {a w m p:Int} {A B:Prop} (p0:0≤p) (x0:0≤a * w) (hf:¬ p + a * w≤m→A) (hn:p + a * w≤m→addU p (mulU a w m) m = p + a * w→B):brn (!decide (p + mulU a w m≤m) || !decide (a * w≤m)) A B:=by
 by_cases h1:a * w≤m
 ·have e:mulU a w m = a * w:=by unfold mulU; rw [if_pos h1]
  rw [e,decide_eq_true h1]
  by_cases h2:p + a * w≤m
  ·rw [decide_eq_true h2]
   exact hn h2 (by unfold addU; rw [if_pos (by rw [e]; exact h2),e])
  ·rw [decide_eq_false h2]
   exact hf h2
 ·rw [decide_eq_false h1,Bool.not_false,Bool.or_true]
  exact hf (by omega)
theorem f25_ev (h:Hd) (hh:okH h) (s:Int) (hs:sz48 s) (m:Int) (m0:0≤m) (m1:m≤18446744073709551615) (K:List AV→Prop) (hK:K [u6 (if sumU h s≤m then sumU h s else 0),bo (decide (sumU h s≤m))]):evSpec K2u Tryd.f25 [h.av,i64 s,u6 m] K:=by
 obtain ⟨⟨a1,a2⟩,⟨b1,b2⟩,⟨c1,c2⟩,⟨d1,d2⟩,⟨e1,e2⟩,⟨f1,f2⟩,⟨g1,g2⟩⟩:=lens_bound hh hs
 obtain ⟨v,iu,is,l,t,ty,c⟩:=h
 obtain ⟨⟨p1,p2⟩,⟨q1,q2⟩,⟨r1,r2⟩,⟨s1,s2⟩,⟨t1,t2⟩,⟨u1,u2⟩⟩:=hh
 simp only at p1 p2 q1 q2 r1 r2 s1 s2 t1 t2 u1 u2
 have hs1:4≤s∧s≤8:=by rcases hs with rfl | rfl <;> decide
 have no:¬ sumU ⟨v,iu,is,l,t,ty,c⟩ s≤m→K [.imm (.int .u64 0),.imm (.bool false)]:=fun h=>by rw [if_neg h,decide_eq_false h] at hK; exact hK
 have hsum:sumU ⟨v,iu,is,l,t,ty,c⟩ s = 0 + t * s + t * 1 + ty * 6 + c * 1 + l * (s + 4) + is * 1 + iu * 1:=by unfold sumU l0 l1 l2 l3 l4 l5 l6; simp only; omega
 have z0:0≤t * s:=a1
 have z4:0≤l * (s + 4):=e1
 have z0':t * s≤34359738360:=a2
 have z4':l * (s + 4)≤51539607540:=e2
 rw [hsum] at no hK
 refine Eq.mpr (f25_in v iu is l t ty c s m K) ?_
 intro R1
 simp only [R1]
 refine dup ?_
 clear R1 a1 a2 b1 b2 c1 c2 d1 d2 e1 e2 f1 f2 g1 g2 hsum
 simp only [wrapU (n:=t) s1 (by omega),wrapU (n:=s) (by omega) (by omega),wrapU (n:=ty) t1 (by omega),wrapU (n:=c) u1 (by omega),wrapU (n:=l) r1 (by omega),wrapU (n:=s + 4) (by omega) (by omega),wrapU (n:=is) q1 (by omega),wrapU (n:=iu) p1 (by omega)]
 refine ⟨s1,by omega,by omega,by omega,m0,m1,by omega,by omega,(mulU_b t s m (by omega) m1).1,(mulU_b t s m (by omega) m1).2,m0,m1,stepT (by omega) (by omega) (fun h=>no (by omega)) (fun h e=>?_)⟩
 simp only [e]
 clear e
 refine ⟨s1,by omega,by decide,by decide,m0,m1,by omega,by omega,(mulU_b t 1 m (by omega) m1).1,(mulU_b t 1 m (by omega) m1).2,m0,m1,stepT (by omega) (by omega) (fun h=>no (by omega)) (fun h e=>?_)⟩
 simp only [e]
 clear e
 refine ⟨t1,by omega,by decide,by decide,m0,m1,by omega,by omega,(mulU_b ty 6 m (by omega) m1).1,(mulU_b ty 6 m (by omega) m1).2,m0,m1,stepT (by omega) (by omega) (fun h=>no (by omega)) (fun h e=>?_)⟩
 simp only [e]
 clear e
 refine ⟨u1,by omega,by decide,by decide,m0,m1,by omega,by omega,(mulU_b c 1 m (by omega) m1).1,(mulU_b c 1 m (by omega) m1).2,m0,m1,stepT (by omega) (by omega) (fun h=>no (by omega)) (fun h e=>?_)⟩
 simp only [e]
 clear e
 refine ⟨r1,by omega,by omega,by omega,m0,m1,by omega,by omega,(mulU_b l (s + 4) m (by omega) m1).1,(mulU_b l (s + 4) m (by omega) m1).2,m0,m1,stepT (by omega) (by omega) (fun h=>no (by omega)) (fun h e=>?_)⟩
 simp only [e]
 clear e
 refine ⟨q1,by omega,by decide,by decide,m0,m1,by omega,by omega,(mulU_b is 1 m (by omega) m1).1,(mulU_b is 1 m (by omega) m1).2,m0,m1,stepT (by omega) (by omega) (fun h=>no (by omega)) (fun h e=>?_)⟩
 simp only [e]
 clear e
 refine ⟨p1,by omega,by decide,by decide,m0,m1,by omega,by omega,(mulU_b iu 1 m (by omega) m1).1,(mulU_b iu 1 m (by omega) m1).2,m0,m1,stepT (by omega) (by omega) (fun h=>no (by omega)) (fun h e=>?_)⟩
 simp only [e]
 clear e
 have e7:mulU iu 1 m = iu * 1:=by unfold mulU; rw [if_pos (by omega)]
 rw [if_pos h,decide_eq_true h] at hK
 rw [e7,decide_eq_true h]
 exact hK
theorem f28_ev (d:List UInt8) (p e a n:Int) (hu:okU ⟨d,p,e,a⟩) (K:List AV→Prop) (hK:K [.new (.bytes (takeU ⟨d,p,e,a⟩ n)),(advU ⟨d,p,e,a⟩ n).av]):evSpec K2 Tryd.f28 [curAV d p e a,i64 n] K:=by
 obtain ⟨h0,h1,h2⟩:=hu
 simp only at h0 h1 h2
 refine Eq.mpr (f28_in d p e a n K) ?_
 intro R1 R2 R3 R4 R5 R6 R7 R8
 refine ⟨⟨h0,h1,h2⟩,brn_intro (fun h=>?_) (fun h=>?_)⟩
 ·have h:advOk ⟨d,p,e,a⟩ n = false:=by simpa using h
  unfold takeU at hK
  rw [h] at hK
  exact hK
 ·have h:advOk ⟨d,p,e,a⟩ n = true:=by simpa using h
  have hq:e = 0∧0≤n∧n≤restU ⟨d,p,e,a⟩:=by unfold advOk at h; simpa using h
  obtain ⟨rfl,n0,n1⟩:=hq
  have hr:restU ⟨d,p,0,a⟩ = (d.length:Int) - p:=by unfold restU; rw [if_pos rfl]
  have ha:advU ⟨d,p,0,a⟩ n = ⟨d,p + n,0,a⟩:=by unfold advU; rw [if_pos rfl,if_pos ⟨n0,n1⟩]
  unfold takeU at hK
  rw [h,if_pos rfl] at hK
  have e1:(p + n).toNat - p.toNat = n.toNat:=by omega
  have hR1:R1:=by
   show K _
   rw [ha] at hK ⊢
   simp only [e1]
   exact hK
  rw [hr] at n1
  have c1:p≤(advU ⟨d,p,0,a⟩ n).p:=by rw [ha]; simp only; omega
  have c2:(advU ⟨d,p,0,a⟩ n).p≤(d.length:Int):=by rw [ha]; simp only; omega
  have c3:((List.map u8 []).length + ((d.drop p.toNat).take ((advU ⟨d,p,0,a⟩ n).p.toNat - p.toNat)).length) * 1≤140737488355328:=by rw [List.length_take,List.length_drop]; simp; omega
  have c4:(List.map u8 []).length + ((d.drop p.toNat).take ((advU ⟨d,p,0,a⟩ n).p.toNat - p.toNat)).length≤140737488355328:=by omega
  clear_value R1
  repeat' first
   | exact hR1
   | exact h0
   | exact c1
   | exact c2
   | exact c3
   | exact c4
   | refine And.intro ?_ ?_
end Z19
set_option maxRecDepth 100000
namespace Z19
open Go Go.AE Go.Proofs D6
attribute [local irreducible] loopK evCode evSpec loopB norm
theorem brn_f (x y:Prop):brn false x y = y:=rfl
theorem shr32 {n:Nat}:shrV .u64 (n:Int) 32 = ((n / 4294967296:Nat):Int):=by
 unfold shrV
 show (n:Int).fdiv (2 ^ (min 32 64)) = _
 have:(2:Int) ^ (min 32 64) = 4294967296:=by decide
 rw [this]
 have:(n:Int).fdiv 4294967296 = (n:Int) / 4294967296:=Int.fdiv_eq_ediv_of_nonneg _ (by decide)
 rw [this]; omega
theorem and32 {n:Nat} (h:n < 4294967296):bitsV .and .u64 (n:Int) 4294967295 = (n:Int):=by
 unfold bitsV
 simp only
 have e1:(BitVec.ofInt IntKind.u64.bits (n:Int) &&& BitVec.ofInt IntKind.u64.bits 4294967295).toNat = n:=by
  show (BitVec.ofInt 64 (n:Int) &&& BitVec.ofInt 64 4294967295).toNat = n
  rw [BitVec.toNat_and]
  have a1:(BitVec.ofInt 64 (n:Int)).toNat = n:=by simp; omega
  have a2:(BitVec.ofInt 64 4294967295).toNat = 4294967295:=by decide
  rw [a1,a2]
  have:=Nat.and_two_pow_sub_one_eq_mod n 32
  have e:(4294967295:Nat) = 2 ^ 32 - 1:=by decide
  rw [e,this,Nat.mod_eq_of_lt (by omega)]
 rw [e1,wrapU (by omega) (by omega)]
theorem f83_ev (a b:Int) (a0:0≤a) (a1:a≤4294967295) (b0:0≤b) (b1:b≤4294967295) (K:List AV→Prop) (hK:K [u6 0,u6 (a * b)]):evSpec K0 Tryd.f83 [u6 a,u6 b] K:=by
 obtain ⟨a,rfl⟩:=Int.eq_ofNat_of_zero_le a0
 obtain ⟨b,rfl⟩:=Int.eq_ofNat_of_zero_le b0
 have hab:a * b≤4294967295 * 4294967295:=Nat.mul_le_mul (by omega) (by omega)
 have hq:a * b / 4294967296 < 4294967296:=by omega
 refine Eq.mpr (f83_in a b K) ⟨by decide,by decide,by decide,by decide,by decide,?_⟩
 have z:((0:Nat):Int) = 0:=rfl
 have w0:IntKind.wrap .u64 0 = 0:=by decide
 have wab:IntKind.wrap .u64 ((a * b:Nat):Int) = ((a * b:Nat):Int):=wrapU (by omega) (by omega)
 have wq:IntKind.wrap .u64 ((a * b / 4294967296:Nat):Int) = ((a * b / 4294967296:Nat):Int):=wrapU (by omega) (by omega)
 have q0:a / 4294967296 = 0:=Nat.div_eq_of_lt (by omega)
 have q1:b / 4294967296 = 0:=Nat.div_eq_of_lt (by omega)
 have q2:a * b / 4294967296 / 4294967296 = 0:=Nat.div_eq_of_lt hq
 rw [← Int.natCast_mul] at hK
 simp only [shr32,and32 (show a < 4294967296 by omega),and32 (show b < 4294967296 by omega),q0,q1,z,Int.zero_mul,Int.mul_zero,w0,Int.zero_add,Int.add_zero,← Int.natCast_mul,wab,wq,and32 hq,q2]
 exact hK
theorem f53_ev (a b c d e f g:List UInt8) (ha:(a.length:Int)≤big') (hb:(b.length:Int)≤big') (hc:(c.length:Int)≤big') (hd:(d.length:Int)≤big') (he:(e.length:Int)≤big') (hf:(f.length:Int)≤big') (hg:(g.length:Int)≤big')
  (K:List AV→Prop) (hK:K [.new (.bytes (a ++ (b ++ (c ++ (d ++ (e ++ (f ++ g)))))))]):evSpec K1u Tryd.f53 [.imm (.sl 1 [[.bytes a],[.bytes b],[.bytes c],[.bytes d],[.bytes e],[.bytes f],[.bytes g]])] K:=by
 have hbig:big' = 1000000000000:=rfl
 refine Eq.mpr (f53_in a b c d e f g K) ?_
 have i1:IntKind.wrap .i64 ((0:Int) + 1) = 1:=by decide
 have i2:IntKind.wrap .i64 ((1:Int) + 1) = 2:=by decide
 have i3:IntKind.wrap .i64 ((2:Int) + 1) = 3:=by decide
 have i4:IntKind.wrap .i64 ((3:Int) + 1) = 4:=by decide
 have i5:IntKind.wrap .i64 ((4:Int) + 1) = 5:=by decide
 have i6:IntKind.wrap .i64 ((5:Int) + 1) = 6:=by decide
 have s1:IntKind.wrap .i64 ((0:Int) + (a.length:Int)) = ((a.length:Nat):Int):=by rw [wrap64 (by omega) (by omega)]; omega
 have s2:IntKind.wrap .i64 (((a.length:Nat):Int) + (b.length:Int)) = ((a.length + b.length:Nat):Int):=by rw [wrap64 (by omega) (by omega)]; omega
 have s3:IntKind.wrap .i64 (((a.length + b.length:Nat):Int) + (c.length:Int)) = ((a.length + b.length + c.length:Nat):Int):=by rw [wrap64 (by omega) (by omega)]; omega
 have s4:IntKind.wrap .i64 (((a.length + b.length + c.length:Nat):Int) + (d.length:Int)) = ((a.length + b.length + c.length + d.length:Nat):Int):=by rw [wrap64 (by omega) (by omega)]; omega
 have s5:IntKind.wrap .i64 (((a.length + b.length + c.length + d.length:Nat):Int) + (e.length:Int)) = ((a.length + b.length + c.length + d.length + e.length:Nat):Int):=by rw [wrap64 (by omega) (by omega)]; omega
 have s6:IntKind.wrap .i64 (((a.length + b.length + c.length + d.length + e.length:Nat):Int) + (f.length:Int)) = ((a.length + b.length + c.length + d.length + e.length + f.length:Nat):Int):=by rw [wrap64 (by omega) (by omega)]; omega
 have s7:IntKind.wrap .i64 (((a.length + b.length + c.length + d.length + e.length + f.length:Nat):Int) + (g.length:Int)) = ((a.length + b.length + c.length + d.length + e.length + f.length + g.length:Nat):Int):=by rw [wrap64 (by omega) (by omega)]; omega
 simp only [i1,i2,i3,i4,i5,i6,s1,s2,s3,s4,s5,s6,s7]
 have pos:∀ n:Nat,decide ((n:Int) < 0) = false:=fun n=>by simp only [decide_eq_false_iff_not]; omega
 simp only [pos,brn_f]
 have hK':K [.new (.bytes ([] ++ a ++ b ++ c ++ d ++ e ++ f ++ g))]:=by simpa only [List.nil_append,List.append_assoc] using hK
 repeat' first
  | exact hK'
  | exact hK
  | rfl
  | exact True.intro
  | decide
  | refine And.intro ?_ ?_
 all_goals (first | (show _ < ((7:Nat):Int); decide) | (simp only [List.length_append,List.length_nil]; omega) | omega)
end Z19
set_option maxRecDepth 100000
namespace Z19
open Go Go.AE Go.Proofs D6
attribute [local irreducible] loopK evCode evSpec loopB norm
theorem f15_in (d:List UInt8) (p:Int) (e:Int) (a:Int) (d':List UInt8) (p':Int) (e':Int) (a':Int) (K:List AV→Prop):evSpec K1 Tryd.f15 [curAV d p e a,curAV d' p' e' a'] K = ((d.length:Int)≤big∧(d'.length:Int)≤big∧K [.imm (.bool (decide (d = d') && p == p' && e == e' && a == a'))]):=by kernel_rfl
theorem f19_in (T:List Int) (I:List UInt8) (X:List (List IV)) (C:List UInt8) (L:List (List IV)) (S:List Bool) (U:List Bool) (s:Int) (K:List AV→Prop):evSpec K2 Tryd.f19 [blkAV T I X C L S U,i64 s] K = (LoopI K2 (bodyOf Tryd.f19) (0:Nat) (St.mk (lapp [.agg [.imm (.ints IntKind.i64 T),.imm (.bytes I),.imm (.sl (3:Nat) X),.imm (.bytes C),.imm (.sl (2:Nat) L),.imm (.bools S),.imm (.bools U)],.imm (.int .i64 s),.ptr 0 0,.dead,.imm (.bool false),.imm (.int .i64 0)] (dN 33)) [(0,Ob.mk true 0 (AObj.cells [.imm (.ints IntKind.i64 T),.imm (.bytes I),.imm (.sl (3:Nat) X),.imm (.bytes C),.imm (.sl (2:Nat) L),.imm (.bools S),.imm (.bools U)]))] (1:Nat) []) (finK K2 Tryd.f19 K)):=by kernel_rfl
theorem f21_in (T:List Int) (I:List UInt8) (X:List (List IV)) (C:List UInt8) (L:List (List IV)) (S:List Bool) (U:List Bool) (s:Int) (K:List AV→Prop):evSpec K3h Tryd.f21 [blkAV T I X C L S U,i64 s] K = (sz48 s∧(T.length:Int)≤10000000000∧okT X∧(X.length:Int)≤100000000000∧okL L∧sz48 s∧(L.length:Int)≤10000000000∧(S.length:Int)≤big'∧(U.length:Int)≤big'∧(↑(encI s.toNat T).length:Int)≤big'∧(I.length:Int)≤big'∧(↑(enc (tys X)).length:Int)≤big'∧(C.length:Int)≤big'∧(↑(encL s.toNat (lps L)).length:Int)≤big'∧(↑(encO S).length:Int)≤big'∧(↑(encO U).length:Int)≤big'∧K [AV.new (IV.bytes (encI s.toNat T ++ (I ++ (enc (tys X) ++ (C ++ (encL s.toNat (lps L) ++ (encO S ++ encO U)))))))]):=by kernel_rfl
theorem f22_in (T:List Int) (I:List UInt8) (X:List (List IV)) (C:List UInt8) (L:List (List IV)) (S:List Bool) (U:List Bool) (s:Int) (K:List AV→Prop):evSpec K3 Tryd.f22 [blkAV T I X C L S U,i64 s] K = (sz48 s∧(T.length:Int)≤10000000000∧((encI s.toNat T).length + List.length I) * 1≤140737488355328∧(encI s.toNat T).length + List.length I≤140737488355328∧okT X∧(X.length:Int)≤100000000000∧((encI s.toNat T ++ I).length + (enc (tys X)).length) * 1≤140737488355328∧(encI s.toNat T ++ I).length + (enc (tys X)).length≤140737488355328∧((encI s.toNat T ++ I ++ enc (tys X)).length + List.length C) * 1≤140737488355328∧(encI s.toNat T ++ I ++ enc (tys X)).length + List.length C≤140737488355328∧okL L∧sz48 s∧(L.length:Int)≤10000000000∧((encI s.toNat T ++ I ++ enc (tys X) ++ C).length + (encL s.toNat (lps L)).length) * 1≤140737488355328∧(encI s.toNat T ++ I ++ enc (tys X) ++ C).length + (encL s.toNat (lps L)).length≤140737488355328∧(S.length:Int)≤big'∧((encI s.toNat T ++ I ++ enc (tys X) ++ C ++ encL s.toNat (lps L)).length + (encO S).length) * 1≤140737488355328∧(encI s.toNat T ++ I ++ enc (tys X) ++ C ++ encL
 s.toNat (lps L)).length + (encO S).length≤140737488355328∧(U.length:Int)≤big'∧((encI s.toNat T ++ I ++ enc (tys X) ++ C ++ encL s.toNat (lps L) ++ encO S).length + (encO U).length) * 1≤140737488355328∧(encI s.toNat T ++ I ++ enc (tys X) ++ C ++ encL s.toNat (lps L) ++ encO S).length + (encO U).length≤140737488355328∧K [AV.new (IV.bytes (encI s.toNat T ++ I ++ enc (tys X) ++ C ++ encL s.toNat (lps L) ++ encO S ++ encO U))]):=by kernel_rfl
theorem f19_lp (T:List Int) (I:List UInt8) (X:List (List IV)) (C:List UInt8) (L:List (List IV)) (S:List Bool) (U:List Bool) (s:Int) (i:Nat) (k:AX→St→Prop):evCode K2 (loopB (bodyOf Tryd.f19) (0:Nat)) (h19 T I X C L S U s i) k = (brn (decide ((↑i:Int) < (L.length:Int))) ((0:Int)≤(↑i:Int)∧(↑i:Int) < (L.length:Int)∧kcells (List.getD L (↑i:Int).toNat []) (0:Nat) (lapp [CK.int IntKind.i64] (lapp [CK.int IntKind.i32] [])) = List.getD L (↑i:Int).toNat []∧sz48 s∧brn (!fitsP (ivInt (ivNth (List.getD L (↑i:Int).toNat []) (0:Nat))) s) (k AX.ret (St.mk [.dead,.imm (.int .i64 s),.ptr 0 0,.dead,.imm (.bool false),.imm (.int .i64 (↑i:Int)),.imm (.int .i64 (↑i:Int)),.ptr 0 4,.imm (.sl (2:Nat) L),.imm (.int .i64 (L.length:Int)),.imm (.bool (decide ((↑i:Int) < (L.length:Int)))),.dead,.dead,.ptr 0 4,.imm (.sl (2:Nat) L),.imm (.int .i64 (↑i:Int)),AV.elv [IV.int .i64 (ivInt (ivNth (List.getD L (↑i:Int).toNat []) (0:Nat))),IV.int IntKind.i32 (ivInt (ivNth (List.getD L (↑i:Int).toNat []) ((0:Nat) + 1)))],AV.elv [IV.int .i64 (ivInt (ivNth (List.getD L (↑i:Int).toNat []) (0:Nat))),IV.int IntKind.i32
 (ivInt (ivNth (List.getD L (↑i:Int).toNat []) ((0:Nat) + 1)))],.imm (.int .i64 (ivInt (ivNth (List.getD L (↑i:Int).toNat []) (0:Nat)))),.imm (.int .i64 s),.imm (.bool (fitsP (ivInt (ivNth (List.getD L (↑i:Int).toNat []) (0:Nat))) s)),.imm (.bool !fitsP (ivInt (ivNth (List.getD L (↑i:Int).toNat []) (0:Nat))) s),.dead,.dead,.dead,.dead,.dead,.dead,.dead,.dead,.dead,.dead,.dead,.dead,.dead,.dead,.dead,.dead,.dead] [(0,Ob.mk true 0 (AObj.cells [.imm (.ints IntKind.i64 T),.imm (.bytes I),.imm (.sl (3:Nat) X),.imm (.bytes C),.imm (.sl (2:Nat) L),.imm (.bools S),.imm (.bools U)]))] (1:Nat) [])) (k AX.normal (St.mk [.dead,.imm (.int .i64 s),.ptr 0 0,.dead,.dead,.imm (.int .i64 (IntKind.wrap .i64 ((↑i:Int) + 1))),.imm (.int .i64 (↑i:Int)),.ptr 0 4,.imm (.sl (2:Nat) L),.imm (.int .i64 (L.length:Int)),.imm (.bool (decide ((↑i:Int) < (L.length:Int)))),.imm (.int .i64 (↑i:Int)),.imm (.int .i64 (IntKind.wrap .i64 ((↑i:Int) + 1))),.ptr 0 4,.imm (.sl (2:Nat) L),.imm (.int .i64 (↑i:Int)),AV.elv [IV.int .i64 (ivInt (ivNth (List.getD L (↑i:Int).toNat []) (0:Nat))),IV.int IntKind.i32 (ivInt (ivNth (List.getD L
 (↑i:Int).toNat []) ((0:Nat) + 1)))],AV.elv [IV.int .i64 (ivInt (ivNth (List.getD L (↑i:Int).toNat []) (0:Nat))),IV.int IntKind.i32 (ivInt (ivNth (List.getD L (↑i:Int).toNat []) ((0:Nat) + 1)))],.imm (.int .i64 (ivInt (ivNth (List.getD L (↑i:Int).toNat []) (0:Nat)))),.imm (.int .i64 s),.imm (.bool (fitsP (ivInt (ivNth (List.getD L (↑i:Int).toNat []) (0:Nat))) s)),.imm (.bool !fitsP (ivInt (ivNth (List.getD L (↑i:Int).toNat []) (0:Nat))) s),.dead,.dead,.dead,.dead,.dead,.dead,.dead,.dead,.dead,.dead,.dead,.dead,.dead,.dead,.dead,.dead,.dead] [(0,Ob.mk true 0 (AObj.cells [.imm (.ints IntKind.i64 T),.imm (.bytes I),.imm (.sl (3:Nat) X),.imm (.bytes C),.imm (.sl (2:Nat) L),.imm (.bools S),.imm (.bools U)]))] (1:Nat) []))) (k (AX.exit (0:Nat)) (St.mk [.dead,.imm (.int .i64 s),.ptr 0 0,.dead,.dead,.imm (.int .i64 (↑i:Int)),.imm (.int .i64 (↑i:Int)),.ptr 0 4,.imm (.sl (2:Nat) L),.imm (.int .i64 (L.length:Int)),.imm (.bool (decide ((↑i:Int) < (L.length:Int)))),.dead,.dead,.dead,.dead,.dead,.dead,.dead,.dead,.dead,.dead,.dead,.dead,.dead,.dead,.dead,.dead,.dead,.dead,.dead,.dead,.dead,
 .dead,.dead,.dead,.dead,.dead,.dead,.dead] [(0,Ob.mk true 0 (AObj.cells [.imm (.ints IntKind.i64 T),.imm (.bytes I),.imm (.sl (3:Nat) X),.imm (.bytes C),.imm (.sl (2:Nat) L),.imm (.bools S),.imm (.bools U)]))] (1:Nat) []))):=by kernel_rfl
theorem f19_out (T:List Int) (I:List UInt8) (X:List (List IV)) (C:List UInt8) (L:List (List IV)) (S:List Bool) (U:List Bool) (s:Int) (i:Nat) (K:List AV→Prop):loopK K2 (bodyOf Tryd.f19) (0:Nat) (finK K2 Tryd.f19 K) (AX.exit (0:Nat)) (St.mk (let y:=let y:=let y:=[.dead,.dead,.dead,.dead,.dead]; AV.dead :: AV.dead :: AV.dead :: AV.dead :: AV.dead :: y; let y:=AV.dead :: AV.dead :: AV.dead :: AV.dead :: AV.dead :: y; AV.dead :: AV.dead :: AV.dead :: AV.dead :: AV.dead :: y; let y:=let y:=AV.dead :: AV.dead :: AV.dead :: AV.dead :: AV.dead :: y; AV.imm (.int .i64 (L.length:Int)) :: AV.imm (.bool (decide ((↑i:Int) < (L.length:Int)))) :: AV.dead :: AV.dead :: AV.dead :: y; let y:=AV.dead :: AV.imm (.int .i64 (↑i:Int)) :: AV.imm (.int .i64 (↑i:Int)) :: AV.ptr 0 4 :: AV.imm (.sl (2:Nat) L) :: y; AV.dead :: AV.imm (.int .i64 s) :: AV.ptr 0 0 :: AV.dead :: y) [(0,Ob.mk true 0 (AObj.cells [.imm (.ints IntKind.i64 T),.imm (.bytes I),.imm (.sl (3:Nat) X),.imm (.bytes C),.imm (.sl (2:Nat) L),.imm (.bools S),.imm (.bools U)]))] (1:Nat) []) = ((((T.length:Int) == (I.length:Int)) = true→sz48 s)∧(((T.length:Int) == (I.length:Int)) = true→(T.length:Int)≤big)∧K [.imm (.bool ((T.length:Int) == (I.length:Int) && fitP T s && fewB T I X C L S U))]):=by kernel_rfl
end Z19
set_option maxRecDepth 100000
namespace Z19
open Go Go.AE Go.Proofs D6
attribute [local irreducible] loopK evCode evSpec loopB norm
theorem f15_ev (d:List UInt8) (p e a:Int) (d':List UInt8) (p' e' a':Int) (h:(d.length:Int)≤big) (h':(d'.length:Int)≤big) (K:List AV→Prop) (hK:K [bo (decide (d = d') && (p == p' && (e == e' && a == a')))]):evSpec K1 Tryd.f15 [curAV d p e a,curAV d' p' e' a'] K:=by
 refine Eq.mpr (f15_in d p e a d' p' e' a' K) ⟨h,h',?_⟩
 simp only [Bool.and_assoc]
 exact hK
theorem f37_ev (d:List UInt8) (p e a n:Int) (hu:okU ⟨d,p,e,a⟩) (K:List AV→Prop) (hK:K [.new (.bytes (takeU ⟨d,p,e,a⟩ n)),(advU ⟨d,p,e,a⟩ n).av]):evSpec K1 Tryd.f37 [curAV d p e a,i64 n] K:=by
 obtain ⟨hp0,hp1,hd⟩:=hu
 simp only at hp0 hp1 hd
 refine Eq.mpr (f37_in d p e a n K) (brn_intro (fun he=>?_) (fun he=>?_))
 ·have he':¬ e = 0:=by simpa using he
  have h1:advU ⟨d,p,e,a⟩ n = ⟨d,p,e,a⟩:=by unfold advU; rw [if_neg he']
  have h2:takeU ⟨d,p,e,a⟩ n = []:=by unfold takeU advOk; rw [decide_eq_false (fun h=>he' h.1)]; rfl
  rw [h1,h2] at hK
  exact hK
 have he':e = 0:=by simpa using he
 subst he'
 have hr:restU ⟨d,p,0,a⟩ = (d.length:Int) - p:=by unfold restU; rw [if_pos rfl]
 have hw:IntKind.wrap .i64 ((d.length:Int) - p) = (d.length:Int) - p:=wrap64 (by omega) (by omega)
 rw [hw]
 refine brn_intro (fun hb=>?_) (fun hb=>?_)
 ·have hb':¬ (0≤n∧n≤restU ⟨d,p,0,a⟩):=by
   rw [hr]
   simp only [Bool.or_eq_true,decide_eq_true_eq] at hb
   omega
  have h1:advU ⟨d,p,0,a⟩ n = ⟨d,p,1,d.length⟩:=by unfold advU; rw [if_pos rfl,if_neg hb']
  have h2:takeU ⟨d,p,0,a⟩ n = []:=by unfold takeU advOk; rw [decide_eq_false (fun h=>hb' h.2)]; rfl
  have h3:failU ⟨d,p,0,a⟩ 1 d.length = ⟨d,p,1,d.length⟩:=by unfold failU; rw [if_pos ⟨rfl,by decide⟩]
  rw [h1,h2] at hK
  rw [h3]
  exact hK
 ·have hb':0≤n∧n≤(d.length:Int) - p:=by
   simp only [Bool.or_eq_false_iff,decide_eq_false_iff_not] at hb
   omega
  obtain ⟨n,rfl⟩:=Int.eq_ofNat_of_zero_le hb'.1
  obtain ⟨p,rfl⟩:=Int.eq_ofNat_of_zero_le hp0
  have h1:advU ⟨d,p,0,a⟩ n = ⟨d,(p:Int) + n,0,a⟩:=by unfold advU; rw [hr,if_pos rfl,if_pos hb']
  have h2:takeU ⟨d,p,0,a⟩ n = (d.drop p).take n:=by
   unfold takeU advOk
   rw [hr,decide_eq_true ⟨rfl,hb'.1,hb'.2⟩]
   rfl
  rw [h1,h2] at hK
  unfold LoopI
  refine loop_rule (fun i:Nat=>h37 d p 0 a n ((d.drop p).take i) i) (fun i=>i≤n) (fun i=>n - i) (fun i hi K' hnorm hexit=>?_) rfl 0 p37i _ (Nat.zero_le _) (by kernel_rfl)
  rw [f37_lp]
  refine brn_intro (fun h=>?_) (fun h=>?_)
  ·simp only [decide_eq_true_eq] at h
   have e1:IntKind.wrap .i64 ((p:Int) + (i:Int)) = ((p + i:Nat):Int):=by rw [wrap64 (by omega) (by omega)]; omega
   have e2:u8 ((d.getD (p + i) 0).toNat:Int) = d.getD (p + i) 0:=by unfold u8; simp
   simp only [inc (show i≤1000000000000 by omega),e1,Int.toNat_natCast,List.map_cons,List.map_nil,e2,List.length_singleton]
   have hl:((d.drop p).take i).length = i:=by rw [List.length_take,List.length_drop]; omega
   have ht:(d.drop p).take (i + 1) = (d.drop p).take i ++ [d.getD (p + i) 0]:=by
    rw [takeS 0 (by rw [List.length_drop]; omega),getD_drop']
   refine ⟨by omega,by omega,by rw [hl]; omega,by rw [hl]; omega,hnorm (i + 1) ⟨[],msk [1,2,5,6,7] 0 52,[0,1,2]⟩ _ (by omega) (by omega) ?_⟩
   rw [ht]
   kernel_rfl
  ·simp only [decide_eq_false_iff_not] at h
   have:i = n:=by omega
   subst this
   have e1:IntKind.wrap .i64 ((p:Int) + (i:Int)) = (p:Int) + i:=wrap64 (by omega) (by omega)
   rw [← e1] at hK
   exact hexit _ _ (by simp) (Eq.mp (by kernel_rfl) hK)
theorem f19_ev (T:List Int) (I:List UInt8) (X:List (List IV)) (C:List UInt8) (L:List (List IV)) (S U:List Bool) (s:Int) (h:okBb T I X C L S U) (hs:sz48 s) (K:List AV→Prop) (hK:K [bo (encable T I X C L S U s)]):evSpec K2 Tryd.f19 [blkAV T I X C L S U,i64 s] K:=by
 obtain ⟨a1,a2,a3,a7⟩:=h
 have hbig:big = 4611686018427387904:=rfl
 obtain ⟨M,rfl,hM,hMo⟩:=okL_elim a2
 unfold encable fitL at hK
 rw [hM] at hK
 refine Eq.mpr (f19_in T I X C (M.map cellsL) S U s K) ?_
 rw [List.length_map] at a7
 unfold LoopI
 refine loop_rule (fun i:Nat=>h19 T I X C (M.map cellsL) S U s i) (fun i=>i≤M.length∧(M.take i).all (fun l=>fitsP l.a s) = true) (fun i=>M.length - i) (fun i hP K' hnorm hexit=>?_) rfl 0 p19i _ ⟨Nat.zero_le _,rfl⟩ (by kernel_rfl)
 obtain ⟨hi,ha⟩:=hP
 rw [f19_lp]
 simp only [List.length_map]
 refine brn_intro (fun h=>?_) (fun h=>?_)
 ·simp only [decide_eq_true_eq] at h
  have hlt:i < M.length:=by omega
  simp only [Int.toNat_natCast,getL hlt,kL,aL,incB (show i≤4611686018427387904 by omega)]
  refine ⟨by omega,by omega,True.intro,hs,brn_intro (fun h2=>?_) (fun h2=>?_)⟩
  ·have h2':fitsP (M.getD i p0).a s = false:=by simpa using h2
   have hno:(M.all fun l=>fitsP l.a s) = false:=by
    cases he:(M.all fun l=>fitsP l.a s) with
    | false=>rfl
    | true=>rw [List.all_eq_true] at he; rw [he _ (memD p0 hlt)] at h2'; cases h2'
   rw [hno] at hK
   exact hexit _ _ (by simp) (Eq.mp (by kernel_rfl) hK)
  ·have h2':fitsP (M.getD i p0).a s = true:=by simpa using h2
   refine hnorm (i + 1) p19i _ ⟨hlt,?_⟩ (by omega) (by kernel_rfl)
   rw [takeS p0 hlt,List.all_append,ha]
   simpa using h2'
 ·simp only [decide_eq_false_iff_not] at h
  have hil:i = M.length:=by omega
  rw [hil,List.take_length] at ha
  rw [ha] at hK
  refine hexit _ _ (by simp) ?_
  have:=f19_out T I X C (M.map cellsL) S U s i K
  rw [List.length_map] at this
  refine Eq.mpr this ⟨fun _=>hs,fun _=>a3,?_⟩
  have e:((T.length:Int) == (I.length:Int)) = decide (T.length = I.length):=by
   by_cases hh:T.length = I.length
   ·simp [hh]
   ·rw [decide_eq_false hh]; simp; omega
  rw [e]
  simp only [Bool.true_and] at hK
  rw [Bool.and_assoc]
  exact hK
theorem enc_lens {T:List Int} {I:List UInt8} {X:List (List IV)} {C:List UInt8} {L:List (List IV)} {S U:List Bool} {s:Int} (h:okE T I X C L S U) (hs:sz48 s) :
  (encI s.toNat T).length≤8000000000∧(enc (tys X)).length≤6000000000∧(encL s.toNat (lps L)).length≤12000000000∧(encO S).length = S.length∧(encO U).length = U.length:=by
 obtain ⟨a1,a2,a3,a4,a5,a6,a7,a8,a9⟩:=h
 obtain ⟨n,rfl,n4,n8⟩:=sz_nat hs
 have q1:n * T.length≤8 * 1000000000:=Nat.mul_le_mul n8 (by omega)
 have q2:(n + 4) * L.length≤12 * 1000000000:=Nat.mul_le_mul (by omega) (by omega)
 refine ⟨?_,?_,?_,by simp [encO],by simp [encO]⟩
 ·rw [Int.toNat_natCast,encI_len]; omega
 ·rw [enc_len]; simp only [tys,List.length_map]; omega
 ·rw [Int.toNat_natCast,encL_len]; simp only [lps,List.length_map]; omega
theorem f21_ev (T:List Int) (I:List UInt8) (X:List (List IV)) (C:List UInt8) (L:List (List IV)) (S U:List Bool) (s:Int) (h:okE T I X C L S U) (hs:sz48 s) (K:List AV→Prop) (hK:K [.new (.bytes (encB T I (tys X) C (lps L) S U s.toNat))]):evSpec K3h Tryd.f21 [blkAV T I X C L S U,i64 s] K:=by
 obtain ⟨l1,l2,l3,l4,l5⟩:=enc_lens h hs
 obtain ⟨a1,a2,a3,a4,a5,a6,a7,a8,a9⟩:=h
 have hbig:big' = 1000000000000:=rfl
 exact Eq.mpr (f21_in T I X C L S U s K) ⟨hs,by omega,a1,by omega,a2,hs,by omega,by omega,by omega,by omega,by omega,by omega,by omega,by omega,by omega,by omega,hK⟩
theorem f22_ev (T:List Int) (I:List UInt8) (X:List (List IV)) (C:List UInt8) (L:List (List IV)) (S U:List Bool) (s:Int) (h:okE T I X C L S U) (hs:sz48 s) (K:List AV→Prop) (hK:K [.new (.bytes (encB T I (tys X) C (lps L) S U s.toNat))]):evSpec K3 Tryd.f22 [blkAV T I X C L S U,i64 s] K:=by
 obtain ⟨l1,l2,l3,l4,l5⟩:=enc_lens h hs
 obtain ⟨a1,a2,a3,a4,a5,a6,a7,a8,a9⟩:=h
 have hbig:big' = 1000000000000:=rfl
 refine Eq.mpr (f22_in T I X C L S U s K) ?_
 simp only [List.length_append,Nat.mul_one]
 refine ⟨hs,by omega,by omega,by omega,a1,by omega,by omega,by omega,by omega,by omega,a2,hs,by omega,by omega,by omega,by omega,by omega,by omega,by omega,by omega,by omega,?_⟩
 unfold encB at hK
 simpa only [List.append_assoc] using hK
end Z19
set_option maxRecDepth 100000
namespace Z19
open Go Go.AE Go.Proofs Go.RowKit D6
attribute [local irreducible] loopK evCode evSpec loopB norm
theorem f51_in0 (v:Int) (n:Int) (K:List AV→Prop):evSpec K0 Tryd.f51 [i64 v,i64 n] K = (brn (n == 8) (K [.imm (.bool true)]) ((1:Int)≤n∧n≤8∧K [.imm (.bool (decide (v≥IntKind.wrap .i64 ((0:Int) - IntKind.wrap .i64 ((2:Int) ^ ((8:Nat) * n.toNat - 1)))) && decide (v < IntKind.wrap .i64 ((2:Int) ^ ((8:Nat) * n.toNat - 1)))))])):=by kernel_rfl
theorem f51_ev0 (v n:Int) (hn:sz48 n) (K:List AV→Prop) (hK:K [bo (fitsP v n)]):evSpec K0 Tryd.f51 [i64 v,i64 n] K:=by
 refine Eq.mpr (f51_in0 v n K) ?_
 rcases hn with rfl | rfl
 ·have e:(decide (v≥IntKind.wrap .i64 ((0:Int) - IntKind.wrap .i64 ((2:Int) ^ (8 * Int.toNat 4 - 1)))) && decide (v < IntKind.wrap .i64 ((2:Int) ^ (8 * Int.toNat 4 - 1)))) = fitsP v 4:=by
   have w1:IntKind.wrap .i64 ((2:Int) ^ (8 * Int.toNat 4 - 1)) = 2147483648:=by decide
   have w2:IntKind.wrap .i64 ((0:Int) - 2147483648) = -2147483648:=by decide
   rw [w1,w2]
   unfold fitsP
   rw [decide_eq_false (show ¬ ((4:Int) = 8) by decide),Bool.false_or]
  exact ⟨by decide,by decide,by rw [e]; exact hK⟩
 ·exact hK
theorem ok23:∀ args pres res,sNew args = some (pres,res)→SpecOK Tryd.prog G16 23 args pres res:=by
 intro args pres res h
 unfold sNew at h
 split at h
 case h_2=>cases h
 cases h
 exact mk okE4 Tryd.func23 (by kernel_rfl) (by kernel_rfl) (fun hp K hK=>f23_ev _ K hK)
theorem ok26:∀ args pres res,sRest args = some (pres,res)→SpecOK Tryd.prog G16 26 args pres res:=by
 intro args pres res h
 unfold sRest at h
 split at h
 case h_2=>cases h
 cases h
 exact mk okE4 Tryd.func26 (by kernel_rfl) (by kernel_rfl) (fun hp K hK=>f26_ev _ _ _ _ (hp _ (by simp)) K hK)
theorem ok27:∀ args pres res,sFail args = some (pres,res)→SpecOK Tryd.prog G16 27 args pres res:=by
 intro args pres res h
 unfold sFail at h
 split at h
 case h_2=>cases h
 cases h
 exact mk okE4 Tryd.func27 (by kernel_rfl) (by kernel_rfl) (fun hp K hK=>f27_ev _ _ _ _ _ _ K hK)
theorem ok35:∀ args pres res,sFail args = some (pres,res)→SpecOK Tryd.prog G16 35 args pres res:=by
 intro args pres res h
 unfold sFail at h
 split at h
 case h_2=>cases h
 cases h
 exact mk okE4 Tryd.func35 (by kernel_rfl) (by kernel_rfl) (fun hp K hK=>f35_ev _ _ _ _ _ _ K hK)
theorem ok11:∀ args pres res,sSize args = some (pres,res)→SpecOK Tryd.prog G16 11 args pres res:=by
 intro args pres res h
 unfold sSize at h
 split at h
 case h_2=>cases h
 cases h
 exact mk okE4 Tryd.func11 (by kernel_rfl) (by kernel_rfl) (fun hp K hK=>f11_ev _ K hK)
theorem ok9:∀ args pres res,sValid args = some (pres,res)→SpecOK Tryd.prog G16 9 args pres res:=by
 intro args pres res h
 unfold sValid at h
 split at h
 case h_2=>cases h
 cases h
 exact mk okE4 Tryd.func9 (by kernel_rfl) (by kernel_rfl) (fun hp K hK=>f9_ev _ _ _ _ K hK)
theorem ok10:∀ args pres res,sFew args = some (pres,res)→SpecOK Tryd.prog G16 10 args pres res:=by
 intro args pres res h
 unfold sFew blkS at h
 split at h
 case h_2=>cases h
 try dsimp only at h
 split at h
 case h_2=>cases h
 cases h
 exact mk okE4 Tryd.func10 (by kernel_rfl) (by kernel_rfl) (fun hp K hK=>f10_ev _ _ _ _ _ _ _ K hK)
theorem okF1a:EOK Tryd.prog F1a G16:=addE_ok (addE_ok (addE_ok (addE_ok (addE_ok (addE_ok (addE_ok okE4 ok23) ok26) ok27) ok35) ok11) ok9) ok10
theorem ok16:∀ args pres res,sHeader args = some (pres,res)→SpecOK Tryd.prog G16 16 args pres res:=by
 intro args pres res h
 unfold sHeader blkS at h
 split at h
 case h_2=>cases h
 try dsimp only at h
 split at h
 case h_2=>cases h
 cases h
 exact mk okE4 Tryd.func16 (by kernel_rfl) (by kernel_rfl) (fun hp K hK=>f16_ev _ _ _ _ _ _ _ _ K hK)
theorem ok17:∀ args pres res,sHeader args = some (pres,res)→SpecOK Tryd.prog G16 17 args pres res:=by
 intro args pres res h
 unfold sHeader blkS at h
 split at h
 case h_2=>cases h
 try dsimp only at h
 split at h
 case h_2=>cases h
 cases h
 exact mk okE4 Tryd.func17 (by kernel_rfl) (by kernel_rfl) (fun hp K hK=>f17_ev _ _ _ _ _ _ _ _ K hK)
theorem ok83:∀ args pres res,sMul64 args = some (pres,res)→SpecOK Tryd.prog G16 83 args pres res:=by
 intro args pres res h
 unfold sMul64 at h
 split at h
 case h_2=>cases h
 cases h
 exact mk okE4 Tryd.func83 (by kernel_rfl) (by kernel_rfl) (fun hp K hK=>f83_ev _ _ (hp _ (by simp)) (hp _ (by simp)) (hp _ (by simp)) (hp _ (by simp)) K hK)
theorem ok75:∀ args pres res,sAdd args = some (pres,res)→SpecOK Tryd.prog G16 75 args pres res:=by
 intro args pres res h
 unfold sAdd at h
 split at h
 case h_2=>cases h
 cases h
 rename_i a b m
 refine ⟨⟨_,Tryd.func75,by kernel_rfl,by kernel_rfl⟩,fun hp w own vals hown hs ha hG=>?_⟩
 obtain ⟨X,Y,Z,rfl⟩:∃ X Y Z,vals = #[X,Y,Z]:=by
  have hs':vals.size = 3:=hs
  match vals,hs' with
  | ⟨[X,Y,Z]⟩,_=>exact ⟨X,Y,Z,rfl⟩
 have rX:ARep (zeroGh w own) (.imm (.int .u64 a)) X:=ha 0 _ rfl
 have rY:ARep (zeroGh w own) (.imm (.int .u64 b)) Y:=ha 1 _ rfl
 have rZ:ARep (zeroGh w own) (.imm (.int .u64 m)) Z:=ha 2 _ rfl
 obtain ⟨rfl,_⟩:=arep_int rX
 obtain ⟨rfl,_⟩:=arep_int rY
 obtain ⟨rfl,_⟩:=arep_int rZ
 have q1:=hp (0≤a) (by simp)
 have q2:=hp (a≤18446744073709551615) (by simp)
 have q3:=hp (0≤b) (by simp)
 have q4:=hp (b≤18446744073709551615) (by simp)
 have q5:=hp (0≤m) (by simp)
 have q6:=hp (m≤18446744073709551615) (by simp)
 refine (add_calls a b m q1 q2 q3 q4 q5 q6 w).mono ?_
 rintro e w' ⟨rfl,rfl⟩
 refine ⟨[.int .u64 (if a + b≤m then a + b else 0),.bool (decide (a + b≤m))],[],rfl,Below.refl _ _,?_,fun b hb=>by cases hb⟩
 refine .one (bs:=[]) (bs':=[]) (fun cs e=>by cases e) (.imm ?_ .nil) (fun b hb=>by cases hb) (.one (bs:=[]) (bs':=[]) (fun cs e=>by cases e) (.imm .bool .nil) (fun b hb=>by cases hb) .nil)
 have hb:0≤addU a b m∧addU a b m≤18446744073709551615:=by
  unfold addU
  split <;> omega
 exact .int ⟨hb.1,hb.2⟩
theorem okF1b:EOK Tryd.prog F1b G16:=addE_ok (addE_ok (addE_ok (addE_ok okF1a ok16) ok17) ok83) ok75
theorem ok42:∀ args pres res,sSameI args = some (pres,res)→SpecOK Tryd.prog G16 42 args pres res:=by
 intro args pres res h
 unfold sSameI at h
 split at h
 case h_2=>cases h
 cases h
 exact mk okE4 Tryd.func42 (by kernel_rfl) (by kernel_rfl) (fun hp K hK=>f42_ev _ _ (hp _ (by simp)) (hp _ (by simp)) K hK)
theorem ok46:∀ args pres res,sSameI args = some (pres,res)→SpecOK Tryd.prog G16 46 args pres res:=by
 intro args pres res h
 unfold sSameI at h
 split at h
 case h_2=>cases h
 cases h
 exact mk okE4 Tryd.func46 (by kernel_rfl) (by kernel_rfl) (fun hp K hK=>f46_ev _ _ (hp _ (by simp)) (hp _ (by simp)) K hK)
theorem ok47:∀ args pres res,sSameB args = some (pres,res)→SpecOK Tryd.prog G16 47 args pres res:=by
 intro args pres res h
 unfold sSameB at h
 split at h
 case h_2=>cases h
 cases h
 exact mk okE4 Tryd.func47 (by kernel_rfl) (by kernel_rfl) (fun hp K hK=>f47_ev _ _ (hp _ (by simp)) (hp _ (by simp)) K hK)
theorem ok48:∀ args pres res,sSameT args = some (pres,res)→SpecOK Tryd.prog G16 48 args pres res:=by
 intro args pres res h
 unfold sSameT at h
 split at h
 case h_2=>cases h
 cases h
 rename_i xs ys
 exact mk okE4 Tryd.func48 (by kernel_rfl) (by kernel_rfl) (fun hp K hK=>by
  obtain ⟨L,rfl,e,hL⟩:=okT_elim (hp (okT xs) (by simp))
  obtain ⟨M,rfl,e',hM⟩:=okT_elim (hp (okT ys) (by simp))
  rw [e,e'] at hK
  have h1:=hp (((L.map cellsT).length:Int)≤big) (by simp)
  have h2:=hp (((M.map cellsT).length:Int)≤big) (by simp)
  rw [List.length_map] at h1 h2
  exact f48_ev L M h1 h2 K hK)
theorem ok44:∀ args pres res,sSameL args = some (pres,res)→SpecOK Tryd.prog G16 44 args pres res:=by
 intro args pres res h
 unfold sSameL at h
 split at h
 case h_2=>cases h
 cases h
 rename_i xs ys
 exact mk okE4 Tryd.func44 (by kernel_rfl) (by kernel_rfl) (fun hp K hK=>by
  obtain ⟨L,rfl,e,hL⟩:=okL_elim (hp (okL xs) (by simp))
  obtain ⟨M,rfl,e',hM⟩:=okL_elim (hp (okL ys) (by simp))
  rw [e,e'] at hK
  have h1:=hp (((L.map cellsL).length:Int)≤big') (by simp)
  have h2:=hp (((M.map cellsL).length:Int)≤big') (by simp)
  rw [List.length_map] at h1 h2
  exact f44_ev L M h1 h2 K hK)
theorem ok49:∀ args pres res,sSameL args = some (pres,res)→SpecOK Tryd.prog G16 49 args pres res:=by
 intro args pres res h
 unfold sSameL at h
 split at h
 case h_2=>cases h
 cases h
 rename_i xs ys
 exact mk okE4 Tryd.func49 (by kernel_rfl) (by kernel_rfl) (fun hp K hK=>by
  obtain ⟨L,rfl,e,hL⟩:=okL_elim (hp (okL xs) (by simp))
  obtain ⟨M,rfl,e',hM⟩:=okL_elim (hp (okL ys) (by simp))
  rw [e,e'] at hK
  have h1:=hp (((L.map cellsL).length:Int)≤big') (by simp)
  have h2:=hp (((M.map cellsL).length:Int)≤big') (by simp)
  rw [List.length_map] at h1 h2
  exact f49_ev L M h1 h2 K hK)
theorem ok45:∀ args pres res,sSameO args = some (pres,res)→SpecOK Tryd.prog G16 45 args pres res:=by
 intro args pres res h
 unfold sSameO at h
 split at h
 case h_2=>cases h
 cases h
 exact mk okE4 Tryd.func45 (by kernel_rfl) (by kernel_rfl) (fun hp K hK=>f45_ev _ _ (hp _ (by simp)) (hp _ (by simp)) K hK)
theorem ok50:∀ args pres res,sSameO args = some (pres,res)→SpecOK Tryd.prog G16 50 args pres res:=by
 intro args pres res h
 unfold sSameO at h
 split at h
 case h_2=>cases h
 cases h
 exact mk okE4 Tryd.func50 (by kernel_rfl) (by kernel_rfl) (fun hp K hK=>f50_ev _ _ (hp _ (by simp)) (hp _ (by simp)) K hK)
theorem okF1c:EOK Tryd.prog F1c G16:=addE_ok (addE_ok (addE_ok (addE_ok (addE_ok (addE_ok (addE_ok (addE_ok okF1b ok42) ok46) ok47) ok48) ok44) ok49) ok45) ok50
theorem ok36:∀ args pres res,sLens args = some (pres,res)→SpecOK Tryd.prog G16 36 args pres res:=by
 intro args pres res h
 unfold sLens hdS at h
 split at h
 case h_2=>cases h
 cases h
 rename_i v iu is l t ty c s
 exact mk okE4 Tryd.func36 (by kernel_rfl) (by kernel_rfl) (fun hp K hK=>f36_ev ⟨v,iu,is,l,t,ty,c⟩ (hp _ (by simp)) s (hp _ (by simp)) K hK)
theorem ok33:∀ args pres res,sDecI args = some (pres,res)→SpecOK Tryd.prog G16 33 args pres res:=by
 intro args pres res h
 unfold sDecI at h
 split at h
 case h_2=>cases h
 cases h
 exact mk okE4 Tryd.func33 (by kernel_rfl) (by kernel_rfl) (fun hp K hK=>f33_ev _ _ (hp _ (by simp)) (hp _ (by simp)) K hK)
theorem ok38:∀ args pres res,sDecI args = some (pres,res)→SpecOK Tryd.prog G16 38 args pres res:=by
 intro args pres res h
 unfold sDecI at h
 split at h
 case h_2=>cases h
 cases h
 exact mk okE4 Tryd.func38 (by kernel_rfl) (by kernel_rfl) (fun hp K hK=>f38_ev _ _ (hp _ (by simp)) (hp _ (by simp)) K hK)
theorem ok34:∀ args pres res,sDecL args = some (pres,res)→SpecOK Tryd.prog G16 34 args pres res:=by
 intro args pres res h
 unfold sDecL at h
 split at h
 case h_2=>cases h
 cases h
 exact mk okE4 Tryd.func34 (by kernel_rfl) (by kernel_rfl) (fun hp K hK=>f34_ev _ _ (hp _ (by simp)) (hp _ (by simp)) K hK)
theorem ok40:∀ args pres res,sDecL args = some (pres,res)→SpecOK Tryd.prog G16 40 args pres res:=by
 intro args pres res h
 unfold sDecL at h
 split at h
 case h_2=>cases h
 cases h
 exact mk okE4 Tryd.func40 (by kernel_rfl) (by kernel_rfl) (fun hp K hK=>f40_ev _ _ (hp _ (by simp)) (hp _ (by simp)) K hK)
theorem ok32:∀ args pres res,sDecO args = some (pres,res)→SpecOK Tryd.prog G16 32 args pres res:=by
 intro args pres res h
 unfold sDecO at h
 split at h
 case h_2=>cases h
 cases h
 exact mk okE4 Tryd.func32 (by kernel_rfl) (by kernel_rfl) (fun hp K hK=>f32_ev _ (hp _ (by simp)) K hK)
theorem ok41:∀ args pres res,sDecO args = some (pres,res)→SpecOK Tryd.prog G16 41 args pres res:=by
 intro args pres res h
 unfold sDecO at h
 split at h
 case h_2=>cases h
 cases h
 exact mk okE4 Tryd.func41 (by kernel_rfl) (by kernel_rfl) (fun hp K hK=>f41_ev _ (hp _ (by simp)) K hK)
theorem okF1d:EOK Tryd.prog F1d G16:=addE_ok (addE_ok (addE_ok (addE_ok (addE_ok (addE_ok (addE_ok okF1c ok36) ok33) ok38) ok34) ok40) ok32) ok41
theorem ok54:∀ args pres res,sEncI args = some (pres,res)→SpecOK Tryd.prog G16 54 args pres res:=by
 intro args pres res h
 unfold sEncI at h
 split at h
 case h_2=>cases h
 cases h
 exact mk okE4 Tryd.func54 (by kernel_rfl) (by kernel_rfl) (fun hp K hK=>f54_ev _ _ (hp _ (by simp)) (hp _ (by simp)) K hK)
theorem ok58:∀ args pres res,sEncI args = some (pres,res)→SpecOK Tryd.prog G16 58 args pres res:=by
 intro args pres res h
 unfold sEncI at h
 split at h
 case h_2=>cases h
 cases h
 exact mk okE4 Tryd.func58 (by kernel_rfl) (by kernel_rfl) (fun hp K hK=>f58_ev _ _ (hp _ (by simp)) (hp _ (by simp)) K hK)
theorem ok56:∀ args pres res,sEncL args = some (pres,res)→SpecOK Tryd.prog G16 56 args pres res:=by
 intro args pres res h
 unfold sEncL at h
 split at h
 case h_2=>cases h
 cases h
 rename_i xs s
 exact mk okE4 Tryd.func56 (by kernel_rfl) (by kernel_rfl) (fun hp K hK=>by
  obtain ⟨L,rfl,e,hL⟩:=okL_elim (hp (okL xs) (by simp))
  rw [e] at hK
  have h1:=hp (((L.map cellsL).length:Int)≤10000000000) (by simp)
  rw [List.length_map] at h1
  exact f56_ev L hL s (hp _ (by simp)) h1 K hK)
theorem ok60:∀ args pres res,sEncL args = some (pres,res)→SpecOK Tryd.prog G16 60 args pres res:=by
 intro args pres res h
 unfold sEncL at h
 split at h
 case h_2=>cases h
 cases h
 rename_i xs s
 exact mk okE4 Tryd.func60 (by kernel_rfl) (by kernel_rfl) (fun hp K hK=>by
  obtain ⟨L,rfl,e,hL⟩:=okL_elim (hp (okL xs) (by simp))
  rw [e] at hK
  have h1:=hp (((L.map cellsL).length:Int)≤10000000000) (by simp)
  rw [List.length_map] at h1
  exact f60_ev L hL s (hp _ (by simp)) h1 K hK)
theorem ok57:∀ args pres res,sEncO args = some (pres,res)→SpecOK Tryd.prog G16 57 args pres res:=by
 intro args pres res h
 unfold sEncO at h
 split at h
 case h_2=>cases h
 cases h
 exact mk okE4 Tryd.func57 (by kernel_rfl) (by kernel_rfl) (fun hp K hK=>f57_ev _ (hp _ (by simp)) K hK)
theorem ok61:∀ args pres res,sEncO args = some (pres,res)→SpecOK Tryd.prog G16 61 args pres res:=by
 intro args pres res h
 unfold sEncO at h
 split at h
 case h_2=>cases h
 cases h
 exact mk okE4 Tryd.func61 (by kernel_rfl) (by kernel_rfl) (fun hp K hK=>f61_ev _ (hp _ (by simp)) K hK)
theorem ok51:∀ args pres res,sFits args = some (pres,res)→SpecOK Tryd.prog G16 51 args pres res:=by
 intro args pres res h
 unfold sFits at h
 split at h
 case h_2=>cases h
 cases h
 exact mk okE4 Tryd.func51 (by kernel_rfl) (by kernel_rfl) (fun hp K hK=>f51_ev0 _ _ (hp _ (by simp)) K hK)
theorem okF1:EOK Tryd.prog F1 G16:=addE_ok (addE_ok (addE_ok (addE_ok (addE_ok (addE_ok (addE_ok okF1d ok54) ok58) ok56) ok60) ok57) ok61) ok51
theorem ok74:∀ args pres res,sMul args = some (pres,res)→SpecOK Tryd.prog G16 74 args pres res:=by
 intro args pres res h
 unfold sMul at h
 split at h
 case h_2=>cases h
 cases h
 exact mk okF1 Tryd.func74 (by kernel_rfl) (by kernel_rfl) (fun hp K hK=>f74_ev _ _ _ (hp _ (by simp)) (hp _ (by simp)) (hp _ (by simp)) (hp _ (by simp)) K hK)
theorem ok64:∀ args pres res,sAdv args = some (pres,res)→SpecOK Tryd.prog G16 64 args pres res:=by
 intro args pres res h
 unfold sAdv at h
 split at h
 case h_2=>cases h
 cases h
 exact mk okF1 Tryd.func64 (by kernel_rfl) (by kernel_rfl) (fun hp K hK=>f64_ev _ _ _ _ _ (hp _ (by simp)) K hK)
theorem ok24:∀ args pres res,sSum args = some (pres,res)→SpecOK Tryd.prog G16 24 args pres res:=by
 intro args pres res h
 unfold sSum hdS at h
 split at h
 case h_2=>cases h
 cases h
 rename_i v iu is l t ty c s
 exact spec_ok (C:=K1u) okF1 (okU' okF1 9) Tryd.func24 (by kernel_rfl) (by kernel_rfl) (fun hp=>f24_ev ⟨v,iu,is,l,t,ty,c⟩ (hp _ (by simp)) s (hp _ (by simp)) _ rfl)
theorem ok52:∀ args pres res,sFit args = some (pres,res)→SpecOK Tryd.prog G16 52 args pres res:=by
 intro args pres res h
 unfold sFit at h
 split at h
 case h_2=>cases h
 cases h
 exact mk okF1 Tryd.func52 (by kernel_rfl) (by kernel_rfl) (fun hp K hK=>f52_ev _ _ (hp _ (by simp)) (hp _ (by simp)) K hK)
theorem ok14:∀ args pres res,sEqual args = some (pres,res)→SpecOK Tryd.prog G16 14 args pres res:=by
 intro args pres res h
 unfold sEqual blkS at h
 split at h
 case h_2=>cases h
 try dsimp only at h
 split at h
 case h_2=>cases h
 try dsimp only at h
 split at h
 case h_2=>cases h
 cases h
 exact mk okF1 Tryd.func14 (by kernel_rfl) (by kernel_rfl) (fun hp K hK=>f14_ev _ _ _ _ _ _ _ _ _ _ _ _ _ _ (hp _ (by simp)) (hp _ (by simp)) K hK)
theorem ok18:∀ args pres res,sEqual args = some (pres,res)→SpecOK Tryd.prog G16 18 args pres res:=by
 intro args pres res h
 unfold sEqual blkS at h
 split at h
 case h_2=>cases h
 try dsimp only at h
 split at h
 case h_2=>cases h
 try dsimp only at h
 split at h
 case h_2=>cases h
 cases h
 exact mk okF1 Tryd.func18 (by kernel_rfl) (by kernel_rfl) (fun hp K hK=>f18_ev _ _ _ _ _ _ _ _ _ _ _ _ _ _ (hp _ (by simp)) (hp _ (by simp)) K hK)
theorem ok65:∀ args pres res,sLens args = some (pres,res)→SpecOK Tryd.prog G16 65 args pres res:=by
 intro args pres res h
 unfold sLens hdS at h
 split at h
 case h_2=>cases h
 cases h
 rename_i v iu is l t ty c s
 exact spec_ok (C:=K1u) okF1 (okU' okF1 9) Tryd.func65 (by kernel_rfl) (by kernel_rfl) (fun hp=>f65_ev ⟨v,iu,is,l,t,ty,c⟩ (hp _ (by simp)) s (hp _ (by simp)) _ rfl)
theorem ok37:∀ args pres res,sTake args = some (pres,res)→SpecOK Tryd.prog G16 37 args pres res:=by
 intro args pres res h
 unfold sTake at h
 split at h
 case h_2=>cases h
 cases h
 exact mk okF1 Tryd.func37 (by kernel_rfl) (by kernel_rfl) (fun hp K hK=>f37_ev _ _ _ _ _ (hp _ (by simp)) K hK)
theorem okF2:EOK Tryd.prog F2 G16:=addE_ok (addE_ok (addE_ok (addE_ok (addE_ok (addE_ok (addE_ok (addE_ok okF1 ok74) ok64) ok24) ok52) ok14) ok18) ok65) ok37
theorem ok25:∀ args pres res,sTotal args = some (pres,res)→SpecOK Tryd.prog G16 25 args pres res:=by
 intro args pres res h
 unfold sTotal at h
 split at h
 case h_2=>cases h
 cases h
 rename_i v iu is l t ty c s m
 exact spec_ok (C:=K2u) okF2 (okU' okF2 9) Tryd.func25 (by kernel_rfl) (by kernel_rfl) (fun hp=>f25_ev ⟨v,iu,is,l,t,ty,c⟩ (hp _ (by simp)) s (hp _ (by simp)) m (hp _ (by simp)) (hp _ (by simp)) _ rfl)
theorem ok28:∀ args pres res,sTake args = some (pres,res)→SpecOK Tryd.prog G16 28 args pres res:=by
 intro args pres res h
 unfold sTake at h
 split at h
 case h_2=>cases h
 cases h
 exact mk okF2 Tryd.func28 (by kernel_rfl) (by kernel_rfl) (fun hp K hK=>f28_ev _ _ _ _ _ (hp _ (by simp)) K hK)
theorem ok29:∀ args pres res,sOffs args = some (pres,res)→SpecOK Tryd.prog G16 29 args pres res:=by
 intro args pres res h
 unfold sOffs hdS at h
 split at h
 case h_2=>cases h
 cases h
 rename_i v iu is l t ty c s
 exact spec_ok (C:=K2u) okF2 (okU' okF2 9) Tryd.func29 (by kernel_rfl) (by kernel_rfl) (fun hp=>f29_ev ⟨v,iu,is,l,t,ty,c⟩ (hp _ (by simp)) s (hp _ (by simp)) _ rfl)
theorem ok53:∀ args pres res,sConcat args = some (pres,res)→SpecOK Tryd.prog G16 53 args pres res:=by
 intro args pres res h
 unfold sConcat at h
 split at h
 case h_2=>cases h
 cases h
 exact spec_ok (C:=K1u) okF1 (okU' okF1 9) Tryd.func53 (by kernel_rfl) (by kernel_rfl) (fun hp=>f53_ev _ _ _ _ _ _ _ (hp _ (by simp)) (hp _ (by simp)) (hp _ (by simp)) (hp _ (by simp)) (hp _ (by simp)) (hp _ (by simp)) (hp _ (by simp)) _ rfl)
theorem ok15:∀ args pres res,sSameC args = some (pres,res)→SpecOK Tryd.prog G16 15 args pres res:=by
 intro args pres res h
 unfold sSameC at h
 split at h
 case h_2=>cases h
 cases h
 exact mk okF1 Tryd.func15 (by kernel_rfl) (by kernel_rfl) (fun hp K hK=>f15_ev _ _ _ _ _ _ _ _ (hp _ (by simp)) (hp _ (by simp)) K hK)
theorem ok19:∀ args pres res,sEncable args = some (pres,res)→SpecOK Tryd.prog G16 19 args pres res:=by
 intro args pres res h
 unfold sEncable blkS at h
 split at h
 case h_2=>cases h
 try dsimp only at h
 split at h
 case h_2=>cases h
 cases h
 exact mk okF2 Tryd.func19 (by kernel_rfl) (by kernel_rfl) (fun hp K hK=>f19_ev _ _ _ _ _ _ _ _ (hp _ (by simp)) (hp _ (by simp)) K hK)
theorem okF3:EOK Tryd.prog F3 G16:=addE_ok (addE_ok (addE_ok (addE_ok (addE_ok (addE_ok okF2 ok25) ok28) ok29) ok53) ok15) ok19
end Z19
