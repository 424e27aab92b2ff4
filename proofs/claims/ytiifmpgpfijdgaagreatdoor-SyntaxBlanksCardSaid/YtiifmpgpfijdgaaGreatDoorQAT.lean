import Derived.Test.YtiifmpgpfijdgaaGreatDoorQAS
import Derived.Test.YtiifmpgpfijdgaaGreatDoorQAP
import Derived.Test.YtiifmpgpfijdgaaGreatDoorQAG
namespace Go.Proofs.YtiifmpgpfijdgaaGreatDoor
set_option linter.all false
set_option maxHeartbeats 40000000
set_option maxRecDepth 100000
section
open Go.RowKit
variable {w:World}
def nestN (s:List UInt8):NestR:=match nestWR s with
 | .bad e a=>.bad e a
 | .ok l p _=>.ok l p
theorem nestof_walk (s:List UInt8) (hT:Tabs w):Calls Tryz.prog 36 #[.string ⟨s.toArray⟩] w (NestAns (nestN s) w):=by
 have h0:=heap_alloc_new w (Obj.cells #[.int .i64 0,.int .i64 0] 28)
 have hB0:=(Below.refl w.heap.size w).alloc (Nat.le_refl _) (Obj.cells #[.int .i64 0,.int .i64 0] 28)
 have HA:=fun (w1:World) h=>nestw_walk (w:=w1) s h
 have HT:=Lib.hid hT
 clear hT
 have hR:nestN s=match nestWR s with
  | .bad e a=>.bad e a
  | .ok l p _=>.ok l p:=rfl
 rw [hR]
 clear hR
 have hlt0:=lt_of_block h0
 cases hA:nestWR s with
 | bad er a =>
  rw [hA] at HA
  unfold NestWAns faultV at HA
  go_enter Tryz.func36,Tryz.ntmps36
  go_upto_region 1 with fail
  generalize w.alloc (Obj.cells #[.int .i64 0,.int .i64 0] 28)=wA at *
  go_wp2_with (go_at_call 33;refine (HA wA (HT.out.below hB0)).mono ?_;rintro e w1 ⟨rfl,hb⟩;have k6:=(hb.block _ hlt0).trans h0;have hBw:=bthen hB0 hb;clear hb)
  have h3:=(Below.heap_alloc w1 (Obj.cells #[.int .i64 (er:Int),.int .i64 (a:Int)] 28) w.heap.size (lt_of_block k6)).trans k6
  have h4:=heap_alloc_new w1 (Obj.cells #[.int .i64 (er:Int),.int .i64 (a:Int)] 28)
  have hB2:=Lib.hid (hBw.alloc hBw.size (Obj.cells #[.int .i64 (er:Int),.int .i64 (a:Int)] 28))
  have HS:=Lib.hid (show w.heap.size≠w1.heap.size by have:=lt_of_block k6;omega)
  clear h0 hB0 k6 hBw
  generalize w1.alloc (Obj.cells #[.int .i64 (er:Int),.int .i64 (a:Int)] 28)=w2 at *
  obtain⟨c0,c1,f0,f1⟩:=two_cells' h3
  obtain⟨e0,e1,_⟩:=two_cells' h4
  have u9:=Lib.hid (set_two h3 (.int .i64 (er:Int)) (.int .i64 (a:Int)))
  clear h3 h4
  go_region
  all_goals (go_wp2_with fail)
  all_goals
   have HB9:=Lib.hid ((hB2.out.setCell (p:=⟨w.heap.size,0,none⟩) (Nat.le_refl _) (.int .i64 (er:Int))).setCell (p:=⟨w.heap.size,1,none⟩) (Nat.le_refl _) (.int .i64 (a:Int)))
   obtain⟨q0,q1,_⟩:=two_cells' u9.out
   generalize (w2.setCell ⟨w.heap.size,0,none⟩ (.int .i64 (er:Int))).setCell ⟨w.heap.size,1,none⟩ (.int .i64 (a:Int))=w9 at *
   refine bodyPost_ret (v:=.tuple #[.slice none 0 0,.slice none 0 0,faultV er a]) ?_ rfl ⟨rfl,HB9.out.drew⟩
   simp [results,Tryz.results36,go_sem,q0,q1,faultV]
 | ok l p m =>
  rw [hA] at HA
  unfold NestWAns faultV at HA
  go_enter Tryz.func36,Tryz.ntmps36
  go_upto_region 1 with fail
  generalize w.alloc (Obj.cells #[.int .i64 0,.int .i64 0] 28)=wA at *
  go_wp2_with (go_at_call 33;refine (HA wA (HT.out.below hB0)).mono ?_;rintro e w1 ⟨tv,pv,rfl,hr1,hr2,hb⟩;obtain⟨va,vc,rfl⟩:=ownsRow_slice' hr1;obtain⟨pa,pc,rfl⟩:=ownsRow_slice' hr2;have k6:=(hb.block _ hlt0).trans h0;have hBw:=bthen hB0 hb;clear hb)
  have hsl:=hBw.size
  have h3:=(Below.heap_alloc w1 (Obj.cells #[.int .i64 0,.int .i64 0] 28) w.heap.size (lt_of_block k6)).trans k6
  have h4:=heap_alloc_new w1 (Obj.cells #[.int .i64 0,.int .i64 0] 28)
  have hB2:=Lib.hid (hBw.alloc hBw.size (Obj.cells #[.int .i64 0,.int .i64 0] 28))
  have HS:=Lib.hid (show w.heap.size≠w1.heap.size by have:=lt_of_block k6;omega)
  have HR1:=Lib.hid (hr1.alloc (Obj.cells #[.int .i64 0,.int .i64 0] 28))
  have HR2:=Lib.hid (hr2.alloc (Obj.cells #[.int .i64 0,.int .i64 0] 28))
  clear h0 hB0 k6 hBw hr1 hr2
  generalize w1.alloc (Obj.cells #[.int .i64 0,.int .i64 0] 28)=w2 at *
  obtain⟨c0,c1,f0,f1⟩:=two_cells' h3
  obtain⟨e0,e1,_⟩:=two_cells' h4
  have u9:=Lib.hid (set_two h3 (.int .i64 0) (.int .i64 0))
  clear h3 h4
  go_region
  all_goals (go_wp2_with fail)
  all_goals
   have HB9:=Lib.hid ((hB2.out.setCell (p:=⟨w.heap.size,0,none⟩) (Nat.le_refl _) (.int .i64 0)).setCell (p:=⟨w.heap.size,1,none⟩) (Nat.le_refl _) (.int .i64 0))
   have HO8:=Lib.hid (ownsRow_setCell (ownsRow_setCell HR1.out ⟨w.heap.size,0,none⟩ (by simpa using hlt0) (.int .i64 0)) ⟨w.heap.size,1,none⟩ (by simpa using hlt0) (.int .i64 0))
   have HO9:=Lib.hid (ownsRow_setCell (ownsRow_setCell HR2.out ⟨w.heap.size,0,none⟩ (by simpa using hlt0) (.int .i64 0)) ⟨w.heap.size,1,none⟩ (by simpa using hlt0) (.int .i64 0))
   obtain⟨q0,q1,_⟩:=two_cells' u9.out
   generalize (w2.setCell ⟨w.heap.size,0,none⟩ (.int .i64 0)).setCell ⟨w.heap.size,1,none⟩ (.int .i64 0)=w9 at *
   refine bodyPost_ret (v:=.tuple #[.slice va l.length vc,.slice pa p.length pc,faultV 0 0]) ?_ rfl ⟨_,_,rfl,(ownsRow_base HO8.out (by omega)).drew,(ownsRow_base HO9.out (by omega)).drew,HB9.out.drew⟩
   simp [results,Tryz.results36,go_sem,q0,q1,faultV]
theorem nestF_ok (s:List UInt8) (l0:List Tk):∀ (r:List Tk) (i:Nat) (st:NestS) (l:List Tk) (p:List Int) (m:Nat),nestF s l0 r i st=.ok l p m→st.pair.length=l0.length→i+r.length=l0.length→(∀ x∈st.pair,-1≤x∧x≤1000000)→(∀ x∈st.stk,x≤1000000)→l0.length≤1000000 →
  l=l0∧p.length=l0.length∧∀ x∈p,-1≤x∧x≤1000000
 | [],i,st,l,p,m,h,h1,h2,h3,h4,h5=>by
  rw [nestF] at h
  split at h
  ·cases h
   exact⟨rfl,h1,h3⟩
  ·cases h
 | t::r,i,st,l,p,m,h,h1,h2,h3,h4,h5=>by
  have hset:∀ (q:List Int) (j:Nat) (y:Int),(∀ x∈q,-1≤x∧x≤1000000)→-1≤y∧y≤1000000→∀ x∈q.set j y,-1≤x∧x≤1000000:=fun q j y hq hy x hx=>by
   rcases List.mem_or_eq_of_mem_set hx with hx|rfl
   ·exact hq x hx
   ·exact hy
  simp only [List.length_cons] at h2
  have hi:i≤1000000:=by omega
  have ht:st.top≤1000000:=by
   unfold NestS.top
   cases hg:st.stk.getLast? with
   | none=>simp
   | some x=>exact h4 x (List.mem_of_getLast? hg)
  rw [nestF] at h
  split at h
  ·exact nestF_ok s l0 r (i+1) _ l p m h (by simpa using h1) (by omega) (hset _ _ _ h3 (by omega)) h4 h5
  ·split at h
   ·split at h
    ·cases h
    ·refine nestF_ok s l0 r (i+1) _ l p m h (by simpa using h1) (by omega) (hset _ _ _ h3 (by omega)) (fun x hx=>?_) h5
     rw [List.mem_append,List.mem_singleton] at hx
     rcases hx with hx|rfl
     ·exact h4 x hx
     ·exact hi
   ·split at h
    ·split at h
     ·cases h
     ·exact nestF_ok s l0 r (i+1) _ l p m h (by simpa using h1) (by omega) (hset _ _ _ (hset _ _ _ (hset _ _ _ h3 (by omega)) (by omega)) (by omega)) (fun x hx=>h4 x ((List.dropLast_sublist _).subset hx)) h5
    ·exact nestF_ok s l0 r (i+1) _ l p m h (by simpa using h1) (by omega) (hset _ _ _ h3 (by omega)) h4 h5
theorem nestF_bad (s:List UInt8) (l0:List Tk):∀ (r:List Tk) (i:Nat) (st:NestS) (e a:Nat),nestF s l0 r i st=.bad e a→e=5∨e=6
 | [],i,st,e,a,h=>by
  rw [nestF] at h
  split at h
  ·cases h
  ·cases h;exact .inl rfl
 | t::r,i,st,e,a,h=>by
  rw [nestF] at h
  split at h
  ·exact nestF_bad s l0 r _ _ e a h
  ·split at h
   ·split at h
    ·cases h;exact .inr rfl
    ·exact nestF_bad s l0 r _ _ e a h
   ·split at h
    ·split at h
     ·cases h;exact .inl rfl
     ·exact nestF_bad s l0 r _ _ e a h
    ·exact nestF_bad s l0 r _ _ e a h
theorem nest_law:NestLaw nestN where
 calls:=fun s w h=>nestof_walk s h
 fit:=fun s l p h=>by
  unfold nestN at h
  split at h
  ·cases h
  ·rename_i l2 p2 m hW
   cases h
   unfold nestWR at hW
   split at hW
   ·cases hW
   ·rename_i l3 hS
    obtain⟨h1,h2,h3⟩:=semiR_ok hS
    obtain⟨rfl,h5,h6⟩:=nestF_ok s l3 l3 0 _ _ _ _ hW (by simp) (by omega) (fun x hx=>by rw [List.eq_of_mem_replicate hx];decide) (fun x hx=>by cases hx) (by omega)
    exact⟨fun t ht=>⟨(h1 t ht).1,(h1 t ht).2.1⟩,by omega,h5,fun x hx=>by have:=h6 x hx;omega⟩
 bad:=fun s e a h=>by
  unfold nestN at h
  split at h
  ·rename_i hW
   cases h
   unfold nestWR at hW
   split at hW
   ·rename_i hS
    cases hW
    have:=(semiR_bad hS).1
    omega
   ·have:=nestF_bad _ _ _ _ _ _ _ hW
    omega
  ·cases h
end
section
variable {l:List UInt8}{a b:Nat}
theorem decN_local {n m b0 b1 b2 b3 c1 c2 c3:Nat} (hmn:m≤n) (h1:1 < m→c1=b1) (h2:2 < m→c2=b2) (h3:3 < m→c3=b3)
  (hw:(Lib.decodeN n b0 b1 b2 b3).2≤m) (hr:(Lib.decodeN n b0 b1 b2 b3).1≠65533∨2≤(Lib.decodeN n b0 b1 b2 b3).2):Lib.decodeN m b0 c1 c2 c3=Lib.decodeN n b0 b1 b2 b3:=by
 unfold Lib.decodeN at hw hr ⊢
 by_cases a0:b0 < 128
 ·rw [if_pos a0,if_pos a0]
 rw [if_neg a0] at hw hr
 rw [if_neg a0,if_neg a0]
 by_cases a1:b0 / 32=6∧(1 < n∧b1 / 64=2)
 ·rw [if_pos a1] at hw hr
  split at hw
  ·rename_i v
   have e1:1 < m:=by omega
   have:=h1 e1
   subst this
   rw [if_pos a1,if_pos ⟨a1.1,e1,a1.2.2⟩]
  ·rename_i v
   rw [if_neg v] at hr
   simp at hr
 rw [if_neg a1] at hw hr
 rw [if_neg a1,if_neg (fun h=>a1 ⟨h.1,by omega,by rw [← h1 h.2.1];exact h.2.2⟩)]
 by_cases a2:b0 / 16=14∧(1 < n∧b1 / 64=2)∧(2 < n∧b2 / 64=2)
 ·rw [if_pos a2] at hw hr
  split at hw
  ·rename_i v
   have e2:2 < m:=by omega
   have:=h1 (by omega)
   subst this
   have:=h2 e2
   subst this
   rw [if_pos a2,if_pos ⟨a2.1,⟨by omega,a2.2.1.2⟩,e2,a2.2.2.2⟩]
  ·rename_i v
   rw [if_neg v] at hr
   simp at hr
 rw [if_neg a2] at hw hr
 rw [if_neg a2,if_neg (fun h=>a2 ⟨h.1,⟨by omega,by rw [← h1 h.2.1.1];exact h.2.1.2⟩,by omega,by rw [← h2 h.2.2.1];exact h.2.2.2⟩)]
 by_cases a3:b0 / 8=30∧(1 < n∧b1 / 64=2)∧(2 < n∧b2 / 64=2)∧(3 < n∧b3 / 64=2)
 ·rw [if_pos a3] at hw hr
  split at hw
  ·rename_i v
   have e3:3 < m:=by omega
   have:=h1 (by omega)
   subst this
   have:=h2 (by omega)
   subst this
   have:=h3 e3
   subst this
   rw [if_pos a3,if_pos ⟨a3.1,⟨by omega,a3.2.1.2⟩,⟨by omega,a3.2.2.1.2⟩,e3,a3.2.2.2.2⟩]
  ·rename_i v
   rw [if_neg v] at hr
   simp at hr
 rw [if_neg a3] at hw hr
 simp at hr
theorem dec_local {x:List UInt8}{m:Nat} (hx:x≠[]) (hw:(dec x).2≤m) (hm:m≤x.length) (hr:(dec x).1≠65533∨2≤(dec x).2):dec (x.take m)=dec x:=by
 have hp:=dec_pos hx
 have hl:x.length≠0:=fun e=>hx (List.eq_nil_of_length_eq_zero e)
 have hs:(ByteArray.mk x.toArray).size≠0:=by simp [ByteArray.size];exact hx
 have hs2:(ByteArray.mk (x.take m).toArray).size≠0:=by simp [ByteArray.size];exact⟨by omega,hx⟩
 unfold dec Lib.decodeGo at hw hr ⊢
 rw [if_neg hs,Lib.decode_at] at hw hr
 rw [if_neg hs,if_neg hs2,Lib.decode_at,Lib.decode_at]
 simp only [get_bang,ByteArray.size,List.size_toArray,Nat.sub_zero,Nat.zero_add] at hw hr ⊢
 have hg:∀ j,j < m→(x.take m)[j]?=x[j]?:=fun j hj=>by rw [List.getElem?_take,if_pos hj]
 have e0:(x.take m)[0]?=x[0]?:=hg 0 (by
  have:1≤(dec x).2:=hp
  unfold dec Lib.decodeGo at this
  rw [if_neg hs,Lib.decode_at] at this
  simp only [get_bang,ByteArray.size,List.size_toArray,Nat.sub_zero,Nat.zero_add] at this
  omega)
 rw [e0,List.length_take,Nat.min_eq_left hm]
 exact decN_local hm (fun h=>by rw [hg 1 h]) (fun h=>by rw [hg 2 h]) (fun h=>by rw [hg 3 h]) hw hr
theorem ix_cut:∀ {l:List UInt8}{c:UInt8}{n:Nat},Lib.indexByte l c=(n:Int)→Lib.indexByte (l.take (n+1)) c=(n:Int)
 | [],_,n,h=>by simp [Lib.indexByte] at h
 | b::l,c,n,h=>by
  rw [List.take_succ_cons,Lib.indexByte]
  rw [Lib.indexByte] at h
  split at h
  ·rename_i hb;rw [if_pos hb];exact h
  ·rename_i hb
   rw [if_neg hb]
   split at h
   ·omega
   ·rename_i hl
    have hge:=Lib.indexByte_ge l c
    have hne:Lib.indexByte l c≠-1:=fun e=>hl (beq_iff_eq.2 e)
    obtain⟨o,rfl⟩:∃ o,n=o+1:=⟨n - 1,by omega⟩
    have hi:=ix_cut (l:=l) (c:=c) (n:=o) (by omega)
    rw [hi,if_neg (by simp <;> omega)]
    omega
theorem numQ_up (l:List UInt8) (base:Int):∀ (f:Nat) (q:Qs) (n:Int),q.k≤(numQ l base f q n).2.k
 | 0,q,n=>Nat.le_refl _
 | f+1,q,n=>by
  rw [numQ]
  split
  ·exact Nat.le_refl _
  ·have:q.k+1≤_:=numQ_up l base f ⟨q.k+1,q.out,q.bad⟩ (n*base+digitQ l q.k)
   omega
theorem codeQ_bad {m:UInt8}{n:Int}{ch:Bool}{q:Qs} (h:(codeQ m n ch q).bad=false):q.bad=false:=by
 unfold codeQ at h
 split at h
 ·exact h
 ·split at h
  ·cases h
  ·exact h
theorem readQ_good {m:UInt8}:∀ {f it:Nat}{q q2:Qs},readQ l m f it q=(true,q2)→q.bad=false
 | 0,it,q,q2,h=>by rw [readQ] at h;cases h
 | f+1,it,q,q2,h=>by
  rw [readQ] at h
  split at h
  ·split at h
   ·cases h
   ·rename_i c;simpa using c
  ·cases h
end
section
theorem dec_one {b:UInt8}{r:List UInt8} (h:b.toNat < 128):dec (b::r)=(b.toNat,1):=by
 have h0:(ByteArray.mk (b::r).toArray).size≠0:=by simp [ByteArray.size]
 unfold dec Lib.decodeGo
 rw [if_neg h0,Lib.decode_at]
 have hb:((ByteArray.mk (b::r).toArray).get! 0).toNat=b.toNat:=by rw [get_bang];rfl
 rw [hb]
 unfold Lib.decodeN
 rw [if_pos h]
theorem readR_one {l r:List UInt8}{k:Nat}{b:UInt8} (hd:l.drop k=b::r) (hk:k < l.length) (h:b.toNat < 128):readR l k=((b.toNat:Int),1):=by
 unfold readR
 rw [if_neg (by omega),Int.toNat_natCast,hd,dec_one h,if_neg (by simp;omega)]
 rfl
theorem kind_blank {l r:List UInt8}{k:Nat}{b:UInt8} (hd:l.drop k=32::b::r) (hk:k < l.length) (hb:([32,9,13,10]:List UInt8).contains b=false):kindK l k=(10,(k:Int)+1):=by
 have hR:=readR_one hd hk (by decide)
 have ht:Lib.trimLeftS (l.drop k) [32,9,13,10]=b::r:=by
  rw [hd]
  unfold Lib.trimLeftS
  rw [List.dropWhile_cons,if_pos (by decide),List.dropWhile_cons,if_neg (by simpa using hb)]
 have hlen:=congrArg List.length hd
 simp only [List.length_drop,List.length_cons] at hlen
 unfold kindK
 rw [ht,hR]
 have h1:((((32:UInt8).toNat:Int),(1:Int)).1==65279)=false:=rfl
 have h2:blankB ((((32:UInt8).toNat:Int),(1:Int)).1)=true:=rfl
 rw [h1,h2]
 rw [if_neg (by decide),if_pos rfl,List.length_cons]
 congr 1
 omega
theorem bat_at {l r:List UInt8}{k:Nat}{b:UInt8} (hd:l.drop k=b::r):l[k]?=some b:=by
 have:=congrArg (·[0]?) hd
 simpa using this
theorem scan_none {l r:List UInt8}{k:Nat}{b:UInt8} (hd:l.drop k=b::r) (h:10≤Num.val (b.toNat:Int)) (h2:b.toNat≠46):(Num.scanA l k).2.2=15:=by
 have hb:Num.bat l k=(b.toNat:Int):=by unfold Num.bat;rw [bat_at hd];rfl
 unfold Num.scanA
 rw [if_neg]
 unfold Num.beginsL
 rw [Int.toNat_natCast,hb]
 simp only [Bool.and_eq_true,Bool.or_eq_true,decide_eq_true_eq]
 omega
theorem quote_none {l r:List UInt8}{k:Nat}{b:UInt8} (hd:l.drop k=b::r) (hk:k < l.length) (h:Lib.indexByte ([39,34,96]:List UInt8) b < 0):(beginQ l k).e=15:=by
 have hb:l[k]=b:=by have:=bat_at hd;rw [List.getElem?_eq_getElem hk] at this;exact Option.some.inj this
 unfold beginQ
 rw [dif_pos ⟨by omega,by omega⟩]
 simp only [Int.toNat_natCast,hb]
 rw [if_pos h]
theorem lex_step {l:List UInt8}{f k t:Nat}{kd:UInt8}{acc:List Tk} (hk:k < l.length) (h:kindK l k=((kd.toNat:Int),(t:Int))) (h0:kd≠0):lexF l (f+1) k acc=lexF l f t (acc++[⟨kd,k,t⟩]):=by
 have hT:tkAt l k=⟨kd,k,t⟩:=by unfold tkAt;rw [h];simp
 rw [lexF,if_pos hk,if_neg,hT]
 rw [h]
 intro e
 have e:(kd.toNat:Int)=0:=e
 exact h0 (UInt8.toNat_inj.1 (by have:(0:UInt8).toNat=0:=rfl;omega))
theorem tkText_at {l m r:List UInt8}{k:Nat}{kd:UInt8} (hd:l.drop k=m++r):tkText l ⟨kd,k,k+m.length⟩=m:=by
 unfold tkText
 show (l.drop k).take (k+m.length - k)=m
 rw [hd,show k+m.length - k=m.length by omega,List.take_left]
end
section
open Go.RowKit
variable {w:World}
theorem lt_of_block' {k:Nat}{o:Obj} (h:w.heap[k]?=some o):k < w.heap.size:=(Array.getElem?_eq_some_iff.1 h).1
theorem keepC {b:Nat}{w w':World}{p:Addr}{v:Value} (hb:Below b w w') (hp:p.block < b) (h:w.cell? p=some v):w'.cell? p=some v:=by rw [hb.cell hp];exact h
theorem own_fr {lo sz n:Nat}{T:TypeId}{v:Value}{xs:List Value}{X:List Nat}{w w':World} (h:w.ownsRow lo T sz v n xs) (hf:Fr X w w') (hX:∀ b∈X,v.ownBlock≠some b):w'.ownsRow lo T sz v n xs:=by
 refine⟨h.1,?_⟩
 rcases h.2 with h2|⟨g,cap,cur,h1,h2,h3,h4⟩
 ·exact .inl h2
 ·exact .inr ⟨g,cap,cur,h1,h2,hf.at_ (fun m=>hX g m (by rw [h1];rfl)) h3,h4⟩
def ptG (x:Pt3):Grd.Pt:=⟨x.kind,x.kids,x.word⟩
theorem word_le (E:Env) (hs:E.s.length≤65536) (k:UInt8) (wd:Int):(partW E k wd).length≤65536:=by
 have ht:(E.text wd).length≤65536:=by
  unfold Env.text
  split
  ·simp
  ·split
   ·rw [List.length_drop,List.length_take];omega
   ·simp
 unfold partW
 repeat' split
 all_goals first|exact ht|decide
theorem parts_at {lo n:Nat}{a:Option Addr}{cap:Nat}:∀ {l:List Pt3},w.ownsRow lo 40 3 (.slice a n cap) n (pt3sV l)→n=l.length→Grd.PartsAt w a (l.map ptG):=by
 intro l h hn
 by_cases h0:l=[]
 ·subst h0;exact .inl rfl
 right
 have hp:0 < l.length:=List.length_pos_iff.2 h0
 have hat:∀ (l:List Pt3) (j:Nat) (x:Pt3),l[j]?=some x→∀ i v,(pt3V x)[i]?=some v→(pt3sV l)[j*3+i]?=some v:=by
  intro l
  induction l with
  | nil=>intro j x hx;simp at hx
  | cons y l ih =>
   intro j x hx i v hv
   have hl:(pt3V y).length=3:=rfl
   have e:pt3sV (y::l)=pt3V y++pt3sV l:=rfl
   cases j with
   | zero =>
    simp at hx;subst hx
    have hi:i < 3:=by rw [← hl];exact (List.getElem?_eq_some_iff.1 hv).1
    rw [e,List.getElem?_append_left (by rw [hl];omega),show 0*3+i=i by omega];exact hv
   | succ j =>
    rw [e,List.getElem?_append_right (by rw [hl];omega),hl,show (j+1)*3+i - 3=j*3+i by omega]
    exact ih j x (by simpa using hx) i v hv
 have key:∀ (j:Nat) (x:Pt3),l[j]?=some x→∀ i v,(pt3V x)[i]?=some v→∃ b,a=some ⟨b,0,none⟩∧b < w.heap.size∧w.cell? ⟨b,j*3+i,none⟩=some v:=fun j x hx i v hv=>by
  obtain⟨b,e,_,hb,hc⟩:=cell_of_row h (hat l j x hx i v hv)
  exact⟨b,e,hb,hc⟩
 obtain⟨b,e,hb,_⟩:=key 0 l[0] (List.getElem?_eq_getElem hp) 0 _ rfl
 refine⟨b,0,e,hb,fun j p hj=>?_⟩
 rw [List.getElem?_map] at hj
 cases hx:l[j]? with
 | none=>rw [hx] at hj;cases hj
 | some x =>
  rw [hx] at hj
  cases hj
  have k0:=key j x hx 0 _ rfl
  have k1:=key j x hx 1 _ rfl
  have k2:=key j x hx 2 _ rfl
  obtain⟨_,e0,_,c0⟩:=k0
  obtain⟨_,e1,_,c1⟩:=k1
  obtain⟨_,e2,_,c2⟩:=k2
  rw [e] at e0 e1 e2
  cases e0;cases e1;cases e2
  rw [Nat.zero_add]
  exact⟨c0,c1,c2⟩
mutual
theorem words_le (E:Env) (hs:E.s.length≤65536):∀ (t:Tr),∀ x∈parts E t,x.word.length≤65536
 | .mk k wd f t ks,x,hx=>by
  rw [parts,List.mem_cons] at hx
  rcases hx with rfl|hx
  ·exact word_le E hs k wd
  ·exact wordsL_le E hs ks x hx
theorem wordsL_le (E:Env) (hs:E.s.length≤65536):∀ (ts:List Tr),∀ x∈partsL E ts,x.word.length≤65536
 | [],x,hx=>by rw [partsL] at hx;cases hx
 | t::ts,x,hx=>by
  rw [partsL,List.mem_append] at hx
  rcases hx with hx|hx
  ·exact words_le E hs t x hx
  ·exact wordsL_le E hs ts x hx
end
end
end Go.Proofs.YtiifmpgpfijdgaaGreatDoor
