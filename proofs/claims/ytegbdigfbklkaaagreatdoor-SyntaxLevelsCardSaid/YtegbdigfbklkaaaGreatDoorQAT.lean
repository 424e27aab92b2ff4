import Derived.Test.YtegbdigfbklkaaaGreatDoorQAS
import Derived.Test.YtegbdigfbklkaaaGreatDoorQAP
import Derived.Test.YtegbdigfbklkaaaGreatDoorQAN
import Derived.Test.YtegbdigfbklkaaaGreatDoorQAM
import Derived.Test.YtegbdigfbklkaaaGreatDoorQAG
namespace Go.Proofs.YtegbdigfbklkaaaGreatDoor
set_option linter.all false
set_option maxHeartbeats 40000000
set_option maxRecDepth 100000
section
open Go.RowKit
variable {w:World}
def nestN (s:List UInt8):NestR:=match nestWR s with
 | .bad e a=>.bad e a
 | .ok l p _=>.ok l p
theorem nestof_walk (s:List UInt8) (hT:Tabs w):Calls Tryz.prog 24 #[.string ⟨s.toArray⟩] w (NestAns (nestN s) w):=by
 have h0:=heap_alloc_new w (Obj.cells #[.int .i64 0,.int .i64 0] 27)
 have hB0:=(Below.refl w.heap.size w).alloc (Nat.le_refl _) (Obj.cells #[.int .i64 0,.int .i64 0] 27)
 have HA:=fun (w1:World) h=>nestw_walk (w:=w1) s h
 have HT:=Lib.hid hT
 clear hT
 have hR:nestN s=match nestWR s with
  | .bad e a=>.bad e a
  | .ok l p _=>.ok l p:=rfl
 rw [hR]
 clear hR
 have hlt0:=lt_of_block h0
 cases hA:nestWR s with
 | bad er a =>
  rw [hA] at HA
  unfold NestWAns faultV at HA
  go_enter Tryz.func24,Tryz.ntmps24
  go_upto_region 1 with fail
  generalize w.alloc (Obj.cells #[.int .i64 0,.int .i64 0] 27)=wA at *
  go_wp2_with (go_at_call 32;refine (HA wA (HT.out.below hB0)).mono ?_;rintro e w1 ⟨rfl,hb⟩;have k6:=(hb.block _ hlt0).trans h0;have hBw:=bthen hB0 hb;clear hb)
  have h3:=(Below.heap_alloc w1 (Obj.cells #[.int .i64 (er:Int),.int .i64 (a:Int)] 27) w.heap.size (lt_of_block k6)).trans k6
  have h4:=heap_alloc_new w1 (Obj.cells #[.int .i64 (er:Int),.int .i64 (a:Int)] 27)
  have hB2:=Lib.hid (hBw.alloc hBw.size (Obj.cells #[.int .i64 (er:Int),.int .i64 (a:Int)] 27))
  have HS:=Lib.hid (show w.heap.size≠w1.heap.size by have:=lt_of_block k6;omega)
  clear h0 hB0 k6 hBw
  generalize w1.alloc (Obj.cells #[.int .i64 (er:Int),.int .i64 (a:Int)] 27)=w2 at *
  obtain⟨c0,c1,f0,f1⟩:=two_cells' h3
  obtain⟨e0,e1,_⟩:=two_cells' h4
  have u9:=Lib.hid (set_two h3 (.int .i64 (er:Int)) (.int .i64 (a:Int)))
  clear h3 h4
  go_region
  all_goals (go_wp2_with fail)
  all_goals
   have HB9:=Lib.hid ((hB2.out.setCell (p:=⟨w.heap.size,0,none⟩) (Nat.le_refl _) (.int .i64 (er:Int))).setCell (p:=⟨w.heap.size,1,none⟩) (Nat.le_refl _) (.int .i64 (a:Int)))
   obtain⟨q0,q1,_⟩:=two_cells' u9.out
   generalize (w2.setCell ⟨w.heap.size,0,none⟩ (.int .i64 (er:Int))).setCell ⟨w.heap.size,1,none⟩ (.int .i64 (a:Int))=w9 at *
   refine bodyPost_ret (v:=.tuple #[.slice none 0 0,.slice none 0 0,faultV er a]) ?_ rfl ⟨rfl,HB9.out.drew⟩
   simp [results,Tryz.results24,go_sem,q0,q1,faultV]
 | ok l p m =>
  rw [hA] at HA
  unfold NestWAns faultV at HA
  go_enter Tryz.func24,Tryz.ntmps24
  go_upto_region 1 with fail
  generalize w.alloc (Obj.cells #[.int .i64 0,.int .i64 0] 27)=wA at *
  go_wp2_with (go_at_call 32;refine (HA wA (HT.out.below hB0)).mono ?_;rintro e w1 ⟨tv,pv,rfl,hr1,hr2,hb⟩;obtain⟨va,vc,rfl⟩:=ownsRow_slice' hr1;obtain⟨pa,pc,rfl⟩:=ownsRow_slice' hr2;have k6:=(hb.block _ hlt0).trans h0;have hBw:=bthen hB0 hb;clear hb)
  have hsl:=hBw.size
  have h3:=(Below.heap_alloc w1 (Obj.cells #[.int .i64 0,.int .i64 0] 27) w.heap.size (lt_of_block k6)).trans k6
  have h4:=heap_alloc_new w1 (Obj.cells #[.int .i64 0,.int .i64 0] 27)
  have hB2:=Lib.hid (hBw.alloc hBw.size (Obj.cells #[.int .i64 0,.int .i64 0] 27))
  have HS:=Lib.hid (show w.heap.size≠w1.heap.size by have:=lt_of_block k6;omega)
  have HR1:=Lib.hid (hr1.alloc (Obj.cells #[.int .i64 0,.int .i64 0] 27))
  have HR2:=Lib.hid (hr2.alloc (Obj.cells #[.int .i64 0,.int .i64 0] 27))
  clear h0 hB0 k6 hBw hr1 hr2
  generalize w1.alloc (Obj.cells #[.int .i64 0,.int .i64 0] 27)=w2 at *
  obtain⟨c0,c1,f0,f1⟩:=two_cells' h3
  obtain⟨e0,e1,_⟩:=two_cells' h4
  have u9:=Lib.hid (set_two h3 (.int .i64 0) (.int .i64 0))
  clear h3 h4
  go_region
  all_goals (go_wp2_with fail)
  all_goals
   have HB9:=Lib.hid ((hB2.out.setCell (p:=⟨w.heap.size,0,none⟩) (Nat.le_refl _) (.int .i64 0)).setCell (p:=⟨w.heap.size,1,none⟩) (Nat.le_refl _) (.int .i64 0))
   have HO8:=Lib.hid (ownsRow_setCell (ownsRow_setCell HR1.out ⟨w.heap.size,0,none⟩ (by simpa using hlt0) (.int .i64 0)) ⟨w.heap.size,1,none⟩ (by simpa using hlt0) (.int .i64 0))
   have HO9:=Lib.hid (ownsRow_setCell (ownsRow_setCell HR2.out ⟨w.heap.size,0,none⟩ (by simpa using hlt0) (.int .i64 0)) ⟨w.heap.size,1,none⟩ (by simpa using hlt0) (.int .i64 0))
   obtain⟨q0,q1,_⟩:=two_cells' u9.out
   generalize (w2.setCell ⟨w.heap.size,0,none⟩ (.int .i64 0)).setCell ⟨w.heap.size,1,none⟩ (.int .i64 0)=w9 at *
   refine bodyPost_ret (v:=.tuple #[.slice va l.length vc,.slice pa p.length pc,faultV 0 0]) ?_ rfl ⟨_,_,rfl,(ownsRow_base HO8.out (by omega)).drew,(ownsRow_base HO9.out (by omega)).drew,HB9.out.drew⟩
   simp [results,Tryz.results24,go_sem,q0,q1,faultV]
theorem nestF_ok (s:List UInt8) (l0:List Tk):∀ (r:List Tk) (i:Nat) (st:NestS) (l:List Tk) (p:List Int) (m:Nat),nestF s l0 r i st=.ok l p m→st.pair.length=l0.length→i+r.length=l0.length→(∀ x∈st.pair,-1≤x∧x≤1000000)→(∀ x∈st.stk,x≤1000000)→l0.length≤1000000 →
  l=l0∧p.length=l0.length∧∀ x∈p,-1≤x∧x≤1000000
 | [],i,st,l,p,m,h,h1,h2,h3,h4,h5=>by
  rw [nestF] at h
  split at h
  ·cases h
   exact⟨rfl,h1,h3⟩
  ·cases h
 | t::r,i,st,l,p,m,h,h1,h2,h3,h4,h5=>by
  have hset:∀ (q:List Int) (j:Nat) (y:Int),(∀ x∈q,-1≤x∧x≤1000000)→-1≤y∧y≤1000000→∀ x∈q.set j y,-1≤x∧x≤1000000:=fun q j y hq hy x hx=>by
   rcases List.mem_or_eq_of_mem_set hx with hx|rfl
   ·exact hq x hx
   ·exact hy
  simp only [List.length_cons] at h2
  have hi:i≤1000000:=by omega
  have ht:st.top≤1000000:=by
   unfold NestS.top
   cases hg:st.stk.getLast? with
   | none=>simp
   | some x=>exact h4 x (List.mem_of_getLast? hg)
  rw [nestF] at h
  split at h
  ·exact nestF_ok s l0 r (i+1) _ l p m h (by simpa using h1) (by omega) (hset _ _ _ h3 (by omega)) h4 h5
  ·split at h
   ·split at h
    ·cases h
    ·refine nestF_ok s l0 r (i+1) _ l p m h (by simpa using h1) (by omega) (hset _ _ _ h3 (by omega)) (fun x hx=>?_) h5
     rw [List.mem_append,List.mem_singleton] at hx
     rcases hx with hx|rfl
     ·exact h4 x hx
     ·exact hi
   ·split at h
    ·split at h
     ·cases h
     ·exact nestF_ok s l0 r (i+1) _ l p m h (by simpa using h1) (by omega) (hset _ _ _ (hset _ _ _ (hset _ _ _ h3 (by omega)) (by omega)) (by omega)) (fun x hx=>h4 x ((List.dropLast_sublist _).subset hx)) h5
    ·exact nestF_ok s l0 r (i+1) _ l p m h (by simpa using h1) (by omega) (hset _ _ _ h3 (by omega)) h4 h5
theorem nestF_bad (s:List UInt8) (l0:List Tk):∀ (r:List Tk) (i:Nat) (st:NestS) (e a:Nat),nestF s l0 r i st=.bad e a→e=5∨e=6
 | [],i,st,e,a,h=>by
  rw [nestF] at h
  split at h
  ·cases h
  ·cases h;exact .inl rfl
 | t::r,i,st,e,a,h=>by
  rw [nestF] at h
  split at h
  ·exact nestF_bad s l0 r _ _ e a h
  ·split at h
   ·split at h
    ·cases h;exact .inr rfl
    ·exact nestF_bad s l0 r _ _ e a h
   ·split at h
    ·split at h
     ·cases h;exact .inl rfl
     ·exact nestF_bad s l0 r _ _ e a h
    ·exact nestF_bad s l0 r _ _ e a h
theorem nest_law:NestLaw nestN where
 calls:=fun s w h=>nestof_walk s h
 fit:=fun s l p h=>by
  unfold nestN at h
  split at h
  ·cases h
  ·rename_i l2 p2 m hW
   cases h
   unfold nestWR at hW
   split at hW
   ·cases hW
   ·rename_i l3 hS
    obtain⟨h1,h2,h3⟩:=semiR_ok hS
    obtain⟨rfl,h5,h6⟩:=nestF_ok s l3 l3 0 _ _ _ _ hW (by simp) (by omega) (fun x hx=>by rw [List.eq_of_mem_replicate hx];decide) (fun x hx=>by cases hx) (by omega)
    exact⟨fun t ht=>⟨(h1 t ht).1,(h1 t ht).2.1⟩,by omega,h5,fun x hx=>by have:=h6 x hx;omega⟩
 bad:=fun s e a h=>by
  unfold nestN at h
  split at h
  ·rename_i hW
   cases h
   unfold nestWR at hW
   split at hW
   ·rename_i hS
    cases hW
    have:=(semiR_bad hS).1
    omega
   ·have:=nestF_bad _ _ _ _ _ _ _ hW
    omega
  ·cases h
end
section
variable {l:List UInt8}{a b:Nat}
theorem decN_local {n m b0 b1 b2 b3 c1 c2 c3:Nat} (hmn:m≤n) (h1:1 < m→c1=b1) (h2:2 < m→c2=b2) (h3:3 < m→c3=b3)
  (hw:(Lib.decodeN n b0 b1 b2 b3).2≤m) (hr:(Lib.decodeN n b0 b1 b2 b3).1≠65533∨2≤(Lib.decodeN n b0 b1 b2 b3).2):Lib.decodeN m b0 c1 c2 c3=Lib.decodeN n b0 b1 b2 b3:=by
 unfold Lib.decodeN at hw hr ⊢
 by_cases a0:b0 < 128
 ·rw [if_pos a0,if_pos a0]
 rw [if_neg a0] at hw hr
 rw [if_neg a0,if_neg a0]
 by_cases a1:b0 / 32=6∧(1 < n∧b1 / 64=2)
 ·rw [if_pos a1] at hw hr
  split at hw
  ·rename_i v
   have e1:1 < m:=by omega
   have:=h1 e1
   subst this
   rw [if_pos a1,if_pos ⟨a1.1,e1,a1.2.2⟩]
  ·rename_i v
   rw [if_neg v] at hr
   simp at hr
 rw [if_neg a1] at hw hr
 rw [if_neg a1,if_neg (fun h=>a1 ⟨h.1,by omega,by rw [← h1 h.2.1];exact h.2.2⟩)]
 by_cases a2:b0 / 16=14∧(1 < n∧b1 / 64=2)∧(2 < n∧b2 / 64=2)
 ·rw [if_pos a2] at hw hr
  split at hw
  ·rename_i v
   have e2:2 < m:=by omega
   have:=h1 (by omega)
   subst this
   have:=h2 e2
   subst this
   rw [if_pos a2,if_pos ⟨a2.1,⟨by omega,a2.2.1.2⟩,e2,a2.2.2.2⟩]
  ·rename_i v
   rw [if_neg v] at hr
   simp at hr
 rw [if_neg a2] at hw hr
 rw [if_neg a2,if_neg (fun h=>a2 ⟨h.1,⟨by omega,by rw [← h1 h.2.1.1];exact h.2.1.2⟩,by omega,by rw [← h2 h.2.2.1];exact h.2.2.2⟩)]
 by_cases a3:b0 / 8=30∧(1 < n∧b1 / 64=2)∧(2 < n∧b2 / 64=2)∧(3 < n∧b3 / 64=2)
 ·rw [if_pos a3] at hw hr
  split at hw
  ·rename_i v
   have e3:3 < m:=by omega
   have:=h1 (by omega)
   subst this
   have:=h2 (by omega)
   subst this
   have:=h3 e3
   subst this
   rw [if_pos a3,if_pos ⟨a3.1,⟨by omega,a3.2.1.2⟩,⟨by omega,a3.2.2.1.2⟩,e3,a3.2.2.2.2⟩]
  ·rename_i v
   rw [if_neg v] at hr
   simp at hr
 rw [if_neg a3] at hw hr
 simp at hr
theorem dec_local {x:List UInt8}{m:Nat} (hx:x≠[]) (hw:(dec x).2≤m) (hm:m≤x.length) (hr:(dec x).1≠65533∨2≤(dec x).2):dec (x.take m)=dec x:=by
 have hp:=dec_pos hx
 have hl:x.length≠0:=fun e=>hx (List.eq_nil_of_length_eq_zero e)
 have hs:(ByteArray.mk x.toArray).size≠0:=by simp [ByteArray.size];exact hx
 have hs2:(ByteArray.mk (x.take m).toArray).size≠0:=by simp [ByteArray.size];exact⟨by omega,hx⟩
 unfold dec Lib.decodeGo at hw hr ⊢
 rw [if_neg hs,Lib.decode_at] at hw hr
 rw [if_neg hs,if_neg hs2,Lib.decode_at,Lib.decode_at]
 simp only [get_bang,ByteArray.size,List.size_toArray,Nat.sub_zero,Nat.zero_add] at hw hr ⊢
 have hg:∀ j,j < m→(x.take m)[j]?=x[j]?:=fun j hj=>by rw [List.getElem?_take,if_pos hj]
 have e0:(x.take m)[0]?=x[0]?:=hg 0 (by
  have:1≤(dec x).2:=hp
  unfold dec Lib.decodeGo at this
  rw [if_neg hs,Lib.decode_at] at this
  simp only [get_bang,ByteArray.size,List.size_toArray,Nat.sub_zero,Nat.zero_add] at this
  omega)
 rw [e0,List.length_take,Nat.min_eq_left hm]
 exact decN_local hm (fun h=>by rw [hg 1 h]) (fun h=>by rw [hg 2 h]) (fun h=>by rw [hg 3 h]) hw hr
theorem ix_cut:∀ {l:List UInt8}{c:UInt8}{n:Nat},Lib.indexByte l c=(n:Int)→Lib.indexByte (l.take (n+1)) c=(n:Int)
 | [],_,n,h=>by simp [Lib.indexByte] at h
 | b::l,c,n,h=>by
  rw [List.take_succ_cons,Lib.indexByte]
  rw [Lib.indexByte] at h
  split at h
  ·rename_i hb;rw [if_pos hb];exact h
  ·rename_i hb
   rw [if_neg hb]
   split at h
   ·omega
   ·rename_i hl
    have hge:=Lib.indexByte_ge l c
    have hne:Lib.indexByte l c≠-1:=fun e=>hl (beq_iff_eq.2 e)
    obtain⟨o,rfl⟩:∃ o,n=o+1:=⟨n - 1,by omega⟩
    have hi:=ix_cut (l:=l) (c:=c) (n:=o) (by omega)
    rw [hi,if_neg (by simp <;> omega)]
    omega
theorem numQ_up (l:List UInt8) (base:Int):∀ (f:Nat) (q:Qs) (n:Int),q.k≤(numQ l base f q n).2.k
 | 0,q,n=>Nat.le_refl _
 | f+1,q,n=>by
  rw [numQ]
  split
  ·exact Nat.le_refl _
  ·have:q.k+1≤_:=numQ_up l base f ⟨q.k+1,q.out,q.bad⟩ (n*base+digitQ l q.k)
   omega
theorem codeQ_bad {m:UInt8}{n:Int}{ch:Bool}{q:Qs} (h:(codeQ m n ch q).bad=false):q.bad=false:=by
 unfold codeQ at h
 split at h
 ·exact h
 ·split at h
  ·cases h
  ·exact h
theorem readQ_good {m:UInt8}:∀ {f it:Nat}{q q2:Qs},readQ l m f it q=(true,q2)→q.bad=false
 | 0,it,q,q2,h=>by rw [readQ] at h;cases h
 | f+1,it,q,q2,h=>by
  rw [readQ] at h
  split at h
  ·split at h
   ·cases h
   ·rename_i c;simpa using c
  ·cases h
end
section
theorem dec_one {b:UInt8}{r:List UInt8} (h:b.toNat < 128):dec (b::r)=(b.toNat,1):=by
 have h0:(ByteArray.mk (b::r).toArray).size≠0:=by simp [ByteArray.size]
 unfold dec Lib.decodeGo
 rw [if_neg h0,Lib.decode_at]
 have hb:((ByteArray.mk (b::r).toArray).get! 0).toNat=b.toNat:=by rw [get_bang];rfl
 rw [hb]
 unfold Lib.decodeN
 rw [if_pos h]
theorem readR_one {l r:List UInt8}{k:Nat}{b:UInt8} (hd:l.drop k=b::r) (hk:k < l.length) (h:b.toNat < 128):readR l k=((b.toNat:Int),1):=by
 unfold readR
 rw [if_neg (by omega),Int.toNat_natCast,hd,dec_one h,if_neg (by simp;omega)]
 rfl
theorem kind_blank {l r:List UInt8}{k:Nat}{b:UInt8} (hd:l.drop k=32::b::r) (hk:k < l.length) (hb:([32,9,13,10]:List UInt8).contains b=false):kindK l k=(10,(k:Int)+1):=by
 have hR:=readR_one hd hk (by decide)
 have ht:Lib.trimLeftS (l.drop k) [32,9,13,10]=b::r:=by
  rw [hd]
  unfold Lib.trimLeftS
  rw [List.dropWhile_cons,if_pos (by decide),List.dropWhile_cons,if_neg (by simpa using hb)]
 have hlen:=congrArg List.length hd
 simp only [List.length_drop,List.length_cons] at hlen
 unfold kindK
 rw [ht,hR]
 have h1:((((32:UInt8).toNat:Int),(1:Int)).1==65279)=false:=rfl
 have h2:blankB ((((32:UInt8).toNat:Int),(1:Int)).1)=true:=rfl
 rw [h1,h2]
 rw [if_neg (by decide),if_pos rfl,List.length_cons]
 congr 1
 omega
theorem bat_at {l r:List UInt8}{k:Nat}{b:UInt8} (hd:l.drop k=b::r):l[k]?=some b:=by
 have:=congrArg (·[0]?) hd
 simpa using this
theorem scan_none {l r:List UInt8}{k:Nat}{b:UInt8} (hd:l.drop k=b::r) (h:10≤Num.val (b.toNat:Int)) (h2:b.toNat≠46):(Num.scanA l k).2.2=15:=by
 have hb:Num.bat l k=(b.toNat:Int):=by unfold Num.bat;rw [bat_at hd];rfl
 unfold Num.scanA
 rw [if_neg]
 unfold Num.beginsL
 rw [Int.toNat_natCast,hb]
 simp only [Bool.and_eq_true,Bool.or_eq_true,decide_eq_true_eq]
 omega
theorem quote_none {l r:List UInt8}{k:Nat}{b:UInt8} (hd:l.drop k=b::r) (hk:k < l.length) (h:Lib.indexByte ([39,34,96]:List UInt8) b < 0):(beginQ l k).e=15:=by
 have hb:l[k]=b:=by have:=bat_at hd;rw [List.getElem?_eq_getElem hk] at this;exact Option.some.inj this
 unfold beginQ
 rw [dif_pos ⟨by omega,by omega⟩]
 simp only [Int.toNat_natCast,hb]
 rw [if_pos h]
theorem lex_step {l:List UInt8}{f k t:Nat}{kd:UInt8}{acc:List Tk} (hk:k < l.length) (h:kindK l k=((kd.toNat:Int),(t:Int))) (h0:kd≠0):lexF l (f+1) k acc=lexF l f t (acc++[⟨kd,k,t⟩]):=by
 have hT:tkAt l k=⟨kd,k,t⟩:=by unfold tkAt;rw [h];simp
 rw [lexF,if_pos hk,if_neg,hT]
 rw [h]
 intro e
 have e:(kd.toNat:Int)=0:=e
 exact h0 (UInt8.toNat_inj.1 (by have:(0:UInt8).toNat=0:=rfl;omega))
theorem tkText_at {l m r:List UInt8}{k:Nat}{kd:UInt8} (hd:l.drop k=m++r):tkText l ⟨kd,k,k+m.length⟩=m:=by
 unfold tkText
 show (l.drop k).take (k+m.length - k)=m
 rw [hd,show k+m.length - k=m.length by omega,List.take_left]
end
section
open Go.RowKit
variable {w:World}
theorem nat_beq' (x y:Nat):decide (x=y)=((x:Int)==(y:Int)):=by
  rw [Bool.eq_iff_iff]
  simp only [decide_eq_true_eq,beq_iff_eq]
  omega
def nameF (r:List UInt8):Nat→Nat→Bool
  | 0,_=>true
  | f+1,p=>if p < r.length then (if letterB (dec (r.drop p)).1||(decide (p≠0)&&digitB (dec (r.drop p)).1) then nameF r f (p+(dec (r.drop p)).2) else false) else true
def nameB (l:List UInt8):Bool:=if (l==[])=true∨wordB l=true∨0≤badR l then false else nameF l l.length 0
theorem nameF_end {r:List UInt8}{f p:Nat} (h:¬ p < r.length):nameF r f p=true:=by
  cases f with
  | zero=>rfl
  | succ f=>simp [nameF,h]
theorem name_walk (l:List UInt8) (hs:l.length≤1125899906842624) (hT:Tabs w):Calls Tryz.prog 26 #[.string ⟨l.toArray⟩] w (fun e w'=>e=.returned (.bool (nameB l))∧Below w.heap.size w w'):=by
  have hb0:=Below.refl w.heap.size w
  have hB:=bad_walk (w:=w) l hs hT
  have hW:=fun w=>word_walk (w:=w) l
  have hN:nameB l=if (l==[])=true∨wordB l=true∨0≤badR l then false else nameF l l.length 0:=rfl
  rw [hN]
  clear hN
  generalize badR l=bd at *
  cases e1:(l==[]) with
  | true =>
    rw [if_pos (.inl rfl)]
    go_enter Tryz.func26,Tryz.ntmps26
    go_wp2_with fail
    go_ret
    exact⟨rfl,hb0⟩
  | false =>
  cases e2:wordB l with
  | true =>
    rw [e2] at hW
    rw [if_pos (.inr (.inl rfl))]
    clear e2
    go_enter Tryz.func26,Tryz.ntmps26
    go_wp2_with (go_at_call 41;refine (hW _).mono ?_;rintro e w1 ⟨rfl,hw1⟩;replace hw1:=hw1.symm;subst hw1)
    go_ret
    exact⟨rfl,hb0⟩
  | false =>
  rw [e2] at hW
  clear e2
  by_cases hbd:0≤bd
  · rw [if_pos (.inr (.inr hbd))]
    have d1:decide (0≤bd)=true:=by simpa using hbd
    clear hbd
    go_enter Tryz.func26,Tryz.ntmps26
    go_wp2_with (first|(go_at_call 41;refine (hW _).mono ?_;rintro e w1 ⟨rfl,hw1⟩;replace hw1:=hw1.symm;subst hw1)|(go_at_call 42;refine hB.mono ?_;rintro e w2 ⟨rfl,hb2⟩))
    go_ret
    exact⟨rfl,hb2⟩
  rw [if_neg (by simp [hbd])]
  have d1:decide (0≤bd)=false:=by simpa using hbd
  obtain⟨R,hRR⟩:∃ R,R=nameF l l.length 0:=⟨_,rfl⟩
  rw [← hRR]
  have HRR:=Lib.hid hRR
  have hsz:(ByteArray.mk l.toArray).size=l.length:=by simp [ByteArray.size]
  clear hRR hbd hT
  go_enter Tryz.func26,Tryz.ntmps26
  go_wp2_with (first|(go_at_call 41;refine (hW _).mono ?_;rintro e w1 ⟨rfl,hw1⟩;replace hw1:=hw1.symm;subst hw1)|(go_at_call 42;refine hB.mono ?_;rintro e w2 ⟨rfl,hb2⟩;have hlo:=hb2.size))
  go_loopw [3] (fun _ wr=>∃ (pos fuel:Nat),wr.heap[w2.heap.size]?=some (.stringIter ⟨l.toArray⟩ pos)∧(w.heap.size≤w2.heap.size∧Below w.heap.size w wr)∧nameF l fuel pos=R∧l.length≤pos+fuel) (fun _ wr=>l.length - wr.iterPos w2.heap.size)
  case atStart=>exact⟨0,l.length,World.iter_heap w2 _ 0,⟨hlo,hb2.alloc hlo _⟩,HRR.out.symm,by omega⟩
  case round =>
    obtain⟨pos,fuel,hit,⟨hlo,hbw⟩,HW,hfu⟩:=hrel
    have hpos0:=iterPos_of hit
    by_cases hp:pos < l.length
    · have hnx:∀ ty,(Instr.next (.pointer (some ⟨w2.heap.size,0,none⟩)) true ty).run Tryz.prog wr=_:=fun ty=>Lib.run_next_any_at wr w2.heap.size _ pos ty hit (by rw [hsz];exact hp)
      rw [dec_at hp] at hnx
      have hwd:=dec_pos (l:=l.drop pos) (by intro e;have:=congrArg List.length e;simp only [List.length_drop,List.length_nil] at this;omega)
      obtain⟨fuel,rfl⟩:∃ f',fuel=f'+1:=⟨fuel - 1,by omega⟩
      have hit2:=Lib.iterAt_heap wr w2.heap.size _ pos (pos+(dec (l.drop pos)).2) hit
      have hbw2:=Lib.below_iterAt hbw (k:=w2.heap.size) hlo ⟨l.toArray⟩ (pos+(dec (l.drop pos)).2)
      rw [nameF,if_pos hp] at HW
      obtain⟨d,hd⟩:∃ d,d=dec (l.drop pos):=⟨_,rfl⟩
      rw [← hd] at hnx hwd hit2 hbw2 HW
      obtain⟨W1,hW1⟩:∃ W1,W1=wr.iterAt w2.heap.size ⟨l.toArray⟩ (pos+d.2):=⟨_,rfl⟩
      rw [← hW1] at hnx hit2 hbw2
      have hlt:=lt_of_block hit2
      have hcs:letterB d.1=true∧nameF l fuel (pos+d.2)=R∨letterB d.1=false∧((pos:Int)==0)=true∧R=false∨letterB d.1=false∧((pos:Int)==0)=false∧digitB d.1=true∧nameF l fuel (pos+d.2)=R∨letterB d.1=false∧((pos:Int)==0)=false∧digitB d.1=false∧R=false:=by
        have hz:decide (pos≠0)=!((pos:Int)==0):=by
          have:=nat_beq' pos 0
          rw [decide_not,this];rfl
        rw [hz] at HW
        cases h1:letterB d.1 <;> cases h2:digitB d.1 <;> cases h3:((pos:Int)==0) <;> simp_all
      have HI:=Lib.hid (And.intro hit2 (And.intro hbw2 (And.intro hpos0 (And.intro hp (And.intro hwd (And.intro hfu hlt))))))
      clear hit2 hbw2 hit hbw hpos0 hfu hwd hp hd hW1 HW hlt
      rcases hcs with ⟨d2,h1⟩|⟨d2,d3,h1⟩|⟨d2,d3,d4,h1⟩|⟨d2,d3,d4,h1⟩
      all_goals have HH:=Lib.hid h1
      all_goals clear h1
      all_goals go_wp2_with (first|(go_at_call 43;refine (letter_walk _).mono ?_;rintro e w3 ⟨rfl,hb3⟩)|(go_at_call 44;refine (digit_walk _).mono ?_;rintro e w4 ⟨rfl,rfl⟩))
      all_goals obtain⟨hit2,hbw2,hpos0,hp,hwd,hfu,hlt⟩:=HI.out
      all_goals have hit3:=(hb3.block _ hlt).trans hit2
      all_goals first
        | (go_ret
           exact⟨by rw [HH.out];rfl,bthen hbw2 hb3⟩)
        | exact⟨⟨pos+d.2,fuel,hit3,⟨hlo,bthen hbw2 hb3⟩,HH.out,by omega⟩,by rw [iterPos_of hit3,hpos0];omega⟩
    · have hnx:∀ ty,(Instr.next (.pointer (some ⟨w2.heap.size,0,none⟩)) true ty).run Tryz.prog wr=_:=fun ty=>Lib.run_next_end_at wr w2.heap.size _ pos ty hit (by rw [hsz];exact hp)
      rw [nameF_end hp] at HW
      have HB:=Lib.hid HW
      have HI:=Lib.hid hbw
      clear hit hbw HW
      go_wp2_with fail
      go_ret
      exact⟨by rw [← HB.out];rfl,HI.out⟩
end
section
open Go.RowKit
variable {w:World}
theorem qvalue_walk (l:List UInt8) (hl:l.length≤65536) (hT:Tabs w) :
  Calls Tryz.prog 27 #[.string ⟨l.toArray⟩] w (fun e w'=>e=.returned (.tuple #[.string ⟨(valueQ l).1.toArray⟩,.int .i64 (valueQ l).2])∧Below w.heap.size w w'):=by
 have hC:=begun_walk l 0 hl hT
 have e:valueQ l=if (beginQ l 0).e=0∧(beginQ l 0).tx=l.length then ((beginQ l 0).v,0) else ([],4):=rfl
 rw [e]
 clear e
 generalize beginQ l 0=r at *
 by_cases h1:r.e=0
 ·by_cases h2:r.tx=l.length
  ·rw [if_pos ⟨h1,h2⟩]
   have d1:(r.e != 0)=false:=by simp [h1]
   have d2:(r.tx != (l.length:Int))=false:=by simp [h2]
   clear h1 h2
   go_enter Tryz.func27,Tryz.ntmps27
   go_wp2_with (go_at_call 45;refine hC.mono ?_;rintro e w1 ⟨rfl,hb⟩;simp only [Lit.val])
   go_ret2
   exact⟨rfl,hb⟩
  ·rw [if_neg (fun h=>h2 h.2)]
   have d1:(r.e != 0)=false:=by simp [h1]
   have d2:(r.tx != (l.length:Int))=true:=by simpa using h2
   clear h1 h2
   go_enter Tryz.func27,Tryz.ntmps27
   go_wp2_with (go_at_call 45;refine hC.mono ?_;rintro e w1 ⟨rfl,hb⟩;simp only [Lit.val])
   go_ret2
   exact⟨rfl,hb⟩
 ·rw [if_neg (fun h=>h1 h.1)]
  have d1:(r.e != 0)=true:=by simpa using h1
  clear h1
  go_enter Tryz.func27,Tryz.ntmps27
  go_wp2_with (go_at_call 45;refine hC.mono ?_;rintro e w1 ⟨rfl,hb⟩;simp only [Lit.val])
  go_ret2
  exact⟨rfl,hb⟩
end
section
open Go.RowKit
variable {w:World}
theorem lt_of_block' {k:Nat}{o:Obj} (h:w.heap[k]?=some o):k < w.heap.size:=(Array.getElem?_eq_some_iff.1 h).1
theorem keepC {b:Nat}{w w':World}{p:Addr}{v:Value} (hb:Below b w w') (hp:p.block < b) (h:w.cell? p=some v):w'.cell? p=some v:=by rw [hb.cell hp];exact h
theorem own_fr {lo sz n:Nat}{T:TypeId}{v:Value}{xs:List Value}{X:List Nat}{w w':World} (h:w.ownsRow lo T sz v n xs) (hf:Fr X w w') (hX:∀ b∈X,v.ownBlock≠some b):w'.ownsRow lo T sz v n xs:=by
 refine⟨h.1,?_⟩
 rcases h.2 with h2|⟨g,cap,cur,h1,h2,h3,h4⟩
 ·exact .inl h2
 ·exact .inr ⟨g,cap,cur,h1,h2,hf.at_ (fun m=>hX g m (by rw [h1];rfl)) h3,h4⟩
def ptG (x:Pt3):Grd.Pt:=⟨x.kind,x.kids,x.word⟩
theorem word_le (E:Env) (hs:E.s.length≤65536) (k:UInt8) (wd:Int):(partW E k wd).length≤65536:=by
 have ht:(E.text wd).length≤65536:=by
  unfold Env.text
  split
  ·simp
  ·split
   ·rw [List.length_drop,List.length_take];omega
   ·simp
 unfold partW
 repeat' split
 all_goals first|exact ht|decide
theorem parts_at {lo n:Nat}{a:Option Addr}{cap:Nat}:∀ {l:List Pt3},w.ownsRow lo 34 3 (.slice a n cap) n (pt3sV l)→n=l.length→Grd.PartsAt w a (l.map ptG):=by
 intro l h hn
 by_cases h0:l=[]
 ·subst h0;exact .inl rfl
 right
 have hp:0 < l.length:=List.length_pos_iff.2 h0
 have hat:∀ (l:List Pt3) (j:Nat) (x:Pt3),l[j]?=some x→∀ i v,(pt3V x)[i]?=some v→(pt3sV l)[j*3+i]?=some v:=by
  intro l
  induction l with
  | nil=>intro j x hx;simp at hx
  | cons y l ih =>
   intro j x hx i v hv
   have hl:(pt3V y).length=3:=rfl
   have e:pt3sV (y::l)=pt3V y++pt3sV l:=rfl
   cases j with
   | zero =>
    simp at hx;subst hx
    have hi:i < 3:=by rw [← hl];exact (List.getElem?_eq_some_iff.1 hv).1
    rw [e,List.getElem?_append_left (by rw [hl];omega),show 0*3+i=i by omega];exact hv
   | succ j =>
    rw [e,List.getElem?_append_right (by rw [hl];omega),hl,show (j+1)*3+i - 3=j*3+i by omega]
    exact ih j x (by simpa using hx) i v hv
 have key:∀ (j:Nat) (x:Pt3),l[j]?=some x→∀ i v,(pt3V x)[i]?=some v→∃ b,a=some ⟨b,0,none⟩∧b < w.heap.size∧w.cell? ⟨b,j*3+i,none⟩=some v:=fun j x hx i v hv=>by
  obtain⟨b,e,_,hb,hc⟩:=cell_of_row h (hat l j x hx i v hv)
  exact⟨b,e,hb,hc⟩
 obtain⟨b,e,hb,_⟩:=key 0 l[0] (List.getElem?_eq_getElem hp) 0 _ rfl
 refine⟨b,0,e,hb,fun j p hj=>?_⟩
 rw [List.getElem?_map] at hj
 cases hx:l[j]? with
 | none=>rw [hx] at hj;cases hj
 | some x =>
  rw [hx] at hj
  cases hj
  have k0:=key j x hx 0 _ rfl
  have k1:=key j x hx 1 _ rfl
  have k2:=key j x hx 2 _ rfl
  obtain⟨_,e0,_,c0⟩:=k0
  obtain⟨_,e1,_,c1⟩:=k1
  obtain⟨_,e2,_,c2⟩:=k2
  rw [e] at e0 e1 e2
  cases e0;cases e1;cases e2
  rw [Nat.zero_add]
  exact⟨c0,c1,c2⟩
mutual
theorem words_le (E:Env) (hs:E.s.length≤65536):∀ (t:Tr),∀ x∈parts E t,x.word.length≤65536
 | .mk k wd f t ks,x,hx=>by
  rw [parts,List.mem_cons] at hx
  rcases hx with rfl|hx
  ·exact word_le E hs k wd
  ·exact wordsL_le E hs ks x hx
theorem wordsL_le (E:Env) (hs:E.s.length≤65536):∀ (ts:List Tr),∀ x∈partsL E ts,x.word.length≤65536
 | [],x,hx=>by rw [partsL] at hx;cases hx
 | t::ts,x,hx=>by
  rw [partsL,List.mem_append] at hx
  rcases hx with hx|hx
  ·exact words_le E hs t x hx
  ·exact wordsL_le E hs ts x hx
end
end
section
variable {l:List UInt8}{a b:Nat}
theorem cut_get {i:Nat} (h1:a≤i) (h2:i < b):((l.take b).drop a)[i - a]?=l[i]?:=by
 rw [List.getElem?_drop,show a+(i - a)=i by omega,List.getElem?_take,if_pos h2]
theorem cut_len (h:b≤l.length):((l.take b).drop a).length=b - a:=by
 rw [List.length_drop,List.length_take,Nat.min_eq_left h]
theorem cut_drop {i:Nat} (h1:a≤i):((l.take b).drop a).drop (i - a)=(l.drop i).take (b - i):=by
 rw [List.drop_drop,show a+(i - a)=i by omega,List.drop_take]
def shQ (a:Nat) (q:Qs):Qs:=⟨q.k - a,q.out,q.bad⟩
theorem digit_cut {k:Nat} (hb:b≤l.length) (h1:a≤k) (h2:k < b):digitQ ((l.take b).drop a) (k - a)=digitQ l k:=by
 unfold digitQ Num.bat
 rw [cut_len hb,if_pos (by omega),if_pos (by omega),cut_get h1 h2]
theorem numQ_cut (hb:b≤l.length) (base:Int):∀ (f:Nat) (q:Qs) (n:Int),a≤q.k→(numQ l base f q n).2.bad=false→(numQ l base f q n).2.k≤b→numQ ((l.take b).drop a) base f (shQ a q) n=((numQ l base f q n).1,shQ a (numQ l base f q n).2)
 | 0,q,n,_,_,_=>rfl
 | f+1,q,n,ha,h1,h2=>by
  rw [numQ] at h1 h2
  by_cases c:digitQ l q.k < 0∨base≤digitQ l q.k
  ·rw [if_pos c] at h1;cases h1
  rw [if_neg c] at h1 h2
  have hu:q.k+1≤_:=numQ_up l base f ⟨q.k+1,q.out,q.bad⟩ (n*base+digitQ l q.k)
  have hd:digitQ ((l.take b).drop a) (shQ a q).k=digitQ l q.k:=digit_cut hb ha (by omega)
  have e:(⟨(shQ a q).k+1,(shQ a q).out,(shQ a q).bad⟩:Qs)=shQ a ⟨q.k+1,q.out,q.bad⟩:=by
   show (⟨q.k - a+1,q.out,q.bad⟩:Qs)=⟨q.k+1 - a,q.out,q.bad⟩
   rw [show q.k - a+1=q.k+1 - a by omega]
  rw [numQ,hd,if_neg c,e,numQ_cut hb base f _ _ (by show a≤q.k+1;omega) h1 h2,numQ,if_neg c]
theorem codeQ_sh (m:UInt8) (n:Int) (ch:Bool) (q:Qs):codeQ m n ch (shQ a q)=shQ a (codeQ m n ch q):=by
 unfold codeQ
 split
 ·rfl
 ·split <;> rfl
theorem code_cut (hb:b≤l.length) {m:UInt8}{ch:Bool}{base:Int}{f:Nat}{q:Qs} (ha:a≤q.k) (h1:(codeQ m (numQ l base f q 0).1 ch (numQ l base f q 0).2).bad=false) (h2:(codeQ m (numQ l base f q 0).1 ch (numQ l base f q 0).2).k≤b) :
  codeQ m (numQ ((l.take b).drop a) base f (shQ a q) 0).1 ch (numQ ((l.take b).drop a) base f (shQ a q) 0).2=shQ a (codeQ m (numQ l base f q 0).1 ch (numQ l base f q 0).2):=by
 have hk:=(codeQ_facts m (numQ l base f q 0).1 ch (numQ l base f q 0).2).1
 rw [numQ_cut hb base f q 0 ha (codeQ_bad h1) (by omega),codeQ_sh]
theorem escapeQ_cut (hb:b≤l.length) {m:UInt8}{q:Qs} (ha:a≤q.k) (hk:q.k < b) (h1:(escapeQ l m q).bad=false) (h2:(escapeQ l m q).k≤b):escapeQ ((l.take b).drop a) m (shQ a q)=shQ a (escapeQ l m q):=by
 have hq:q.k < l.length:=by omega
 have hq':(shQ a q).k < ((l.take b).drop a).length:=by rw [cut_len hb];show q.k - a < b - a;omega
 have hg:((l.take b).drop a)[(shQ a q).k]'hq'=l[q.k]:=by
  have this:((l.take b).drop a)[(shQ a q).k]?=l[q.k]?:=cut_get ha hk
  rw [List.getElem?_eq_getElem hq,List.getElem?_eq_getElem hq'] at this
  exact Option.some.inj this
 have e:(⟨(shQ a q).k+1,(shQ a q).out,(shQ a q).bad⟩:Qs)=shQ a ⟨q.k+1,q.out,q.bad⟩:=by
  show (⟨q.k - a+1,q.out,q.bad⟩:Qs)=⟨q.k+1 - a,q.out,q.bad⟩
  rw [show q.k - a+1=q.k+1 - a by omega]
 have e':∀ x,(⟨(shQ a q).k+1,(shQ a q).out++x,(shQ a q).bad⟩:Qs)=shQ a ⟨q.k+1,q.out++x,q.bad⟩:=fun x=>by
  show (⟨q.k - a+1,q.out++x,q.bad⟩:Qs)=⟨q.k+1 - a,q.out++x,q.bad⟩
  rw [show q.k - a+1=q.k+1 - a by omega]
 have ha':a≤(⟨q.k+1,q.out,q.bad⟩:Qs).k:=by show a≤q.k+1;omega
 unfold escapeQ at h1 h2 ⊢
 rw [dif_pos hq] at h1 h2
 rw [dif_pos hq,dif_pos hq',hg]
 split at h1
 ·rename_i c;rw [if_pos c,if_pos c];exact e' _
 ·rename_i c
  rw [if_neg c] at h2
  rw [if_neg c,if_neg c]
  split at h1
  ·rename_i c;rw [if_pos c,if_pos c];exact e' _
  ·rename_i c
   rw [if_neg c] at h2
   rw [if_neg c,if_neg c]
   split at h1
   ·rename_i c
    rw [if_pos c] at h2
    rw [if_pos c,if_pos c,e]
    exact code_cut hb ha' h1 h2
   ·rename_i c
    rw [if_neg c] at h2
    rw [if_neg c,if_neg c]
    split at h1
    ·rename_i c
     rw [if_pos c] at h2
     rw [if_pos c,if_pos c,e]
     exact code_cut hb ha' h1 h2
    ·rename_i c
     rw [if_neg c] at h2
     rw [if_neg c,if_neg c]
     split at h1
     ·rename_i c
      rw [if_pos c] at h2
      rw [if_pos c,if_pos c,e]
      exact code_cut hb ha' h1 h2
     ·rename_i c
      rw [if_neg c] at h2
      rw [if_neg c,if_neg c]
      have hb1:=codeQ_bad h1
      simp only [Bool.or_eq_false_iff] at hb1
      have hk1:=(codeQ_facts m ((numQ l 8 3 q 0).1 % 256) false ⟨(numQ l 8 3 q 0).2.k,(numQ l 8 3 q 0).2.out,(numQ l 8 3 q 0).2.bad||decide (255 < (numQ l 8 3 q 0).1)⟩).1
      rw [hk1] at h2
      rw [numQ_cut hb 8 3 q 0 ha hb1.1 h2]
      exact codeQ_sh (a:=a) m _ false ⟨(numQ l 8 3 q 0).2.k,(numQ l 8 3 q 0).2.out,(numQ l 8 3 q 0).2.bad||decide (255 < (numQ l 8 3 q 0).1)⟩
theorem plainN_cut (hb:b≤l.length) {m:UInt8}{k:Nat} (ha:a≤k) (hk:k < b) (h0:plainN l m k≠0) (h2:k+plainN l m k≤b):plainN ((l.take b).drop a) m (k - a)=plainN l m k:=by
 unfold plainN at h0 h2 ⊢
 split
 ·rename_i c
  rw [if_pos c] at h0 h2
  have hne:l.drop k≠[]:=by intro e;have:=congrArg List.length e;simp at this;omega
  have q0:readR l (k:Int)=if (dec (l.drop k)).1=65533∧(dec (l.drop k)).2 < 2 then (0,0) else (((dec (l.drop k)).1:Int),((dec (l.drop k)).2:Int)):=by
   unfold readR
   rw [if_neg (by omega),Int.toNat_natCast]
  by_cases cr:(dec (l.drop k)).1=65533∧(dec (l.drop k)).2 < 2
  ·rw [q0,if_pos cr] at h0;exact absurd rfl h0
  rw [q0,if_neg cr] at h0 h2
  simp only [Int.toNat_natCast] at h0 h2
  have e:dec (((l.take b).drop a).drop (k - a))=dec (l.drop k):=by
   rw [cut_drop ha]
   exact dec_local hne (by omega) (by rw [List.length_drop];omega) (by omega)
  have q1:readR ((l.take b).drop a) ((k - a:Nat):Int)=(((dec (l.drop k)).1:Int),((dec (l.drop k)).2:Int)):=by
   unfold readR
   rw [if_neg (by rw [cut_len hb];omega),Int.toNat_natCast,e,if_neg cr]
  rw [q1,q0,if_neg cr]
 ·rfl
theorem plainQ_cut (hb:b≤l.length) {m:UInt8}{q:Qs} (ha:a≤q.k) (hk:q.k < b) (h1:(plainQ l m q).bad=false) (h2:(plainQ l m q).k≤b):plainQ ((l.take b).drop a) m (shQ a q)=shQ a (plainQ l m q):=by
 unfold plainQ at h1 h2 ⊢
 simp only [Bool.or_eq_false_iff,decide_eq_false_iff_not] at h1 h2
 have e:=plainN_cut hb ha hk h1.1 h2
 show (⟨q.k - a+plainN ((l.take b).drop a) m (q.k - a),q.out++(((l.take b).drop a).drop (q.k - a)).take (plainN ((l.take b).drop a) m (q.k - a)),decide (plainN ((l.take b).drop a) m (q.k - a)=0)||decide (((l.take b).drop a)[q.k - a]?.getD 0=10)⟩:Qs)=⟨q.k+plainN l m q.k - a,q.out++(l.drop q.k).take (plainN l m q.k),decide (plainN l m q.k=0)||decide (l[q.k]?.getD 0=10)⟩
 rw [e,cut_get ha hk,cut_drop ha,List.take_take,Nat.min_eq_left (by omega),show q.k - a+plainN l m q.k=q.k+plainN l m q.k - a by omega]
theorem readQ_cut (hb:b≤l.length) {m:UInt8}:∀ (f f' it:Nat) (q q2:Qs),readQ l m f it q=(true,q2)→q2.k≤b→a≤q.k→b - q.k≤f'→readQ ((l.take b).drop a) m f' it (shQ a q)=(true,shQ a q2)∧q.k < q2.k
 | 0,f',it,q,q2,h,_,_,_=>by rw [readQ] at h;cases h
 | f+1,f',it,q,q2,h,h2,ha,hf=>by
  have hgd:=readQ_good h
  rw [readQ] at h
  split at h
  ·rename_i hq
   have key:q.k < b→∃ g,f'=g+1∧∃ hq':(shQ a q).k < ((l.take b).drop a).length,((l.take b).drop a)[(shQ a q).k]'hq'=l[q.k]:=fun hk=>by
    have hq':(shQ a q).k < ((l.take b).drop a).length:=by rw [cut_len hb];show q.k - a < b - a;omega
    refine⟨f' - 1,by omega,hq',?_⟩
    have this:((l.take b).drop a)[(shQ a q).k]?=l[q.k]?:=cut_get ha hk
    rw [List.getElem?_eq_getElem hq,List.getElem?_eq_getElem hq'] at this
    exact Option.some.inj this
   have hgd':¬ (shQ a q).bad=true:=by rw [show (shQ a q).bad=q.bad from rfl,hgd];decide
   rw [if_neg (by rw [hgd];decide)] at h
   split at h
   ·rename_i c
    have h1:(decide (m=34)||decide (it=1))=true:=congrArg Prod.fst h
    have h3:q2=⟨q.k+1,q.out,q.bad⟩:=(congrArg Prod.snd h).symm
    subst h3
    have h4:q.k+1≤b:=h2
    obtain⟨g,rfl,hq',hg⟩:=key (by omega)
    refine⟨?_,Nat.lt_succ_self _⟩
    rw [readQ,dif_pos hq',if_neg hgd',hg,if_pos c,h1]
    show (true,(⟨q.k - a+1,q.out,q.bad⟩:Qs))=(true,⟨q.k+1 - a,q.out,q.bad⟩)
    rw [show q.k - a+1=q.k+1 - a by omega]
   ·rename_i c
    split at h
    ·cases h
    ·rename_i c2
     split at h
     ·rename_i c3
      have hfa:=escapeQ_facts l m ⟨q.k+1,q.out,q.bad⟩ hq
      have hfa1:q.k+1≤_:=hfa.1
      have hlt:=(readQ_cut hb f (b - q.k) (it+1) _ q2 h h2 (by omega) (by omega)).2
      obtain⟨g,rfl,hq',hg⟩:=key (by omega)
      obtain⟨hR,_⟩:=readQ_cut hb f g (it+1) _ q2 h h2 (by omega) (by omega)
      refine⟨?_,by omega⟩
      have e:(⟨(shQ a q).k+1,(shQ a q).out,(shQ a q).bad⟩:Qs)=shQ a ⟨q.k+1,q.out,q.bad⟩:=by
       show (⟨q.k - a+1,q.out,q.bad⟩:Qs)=⟨q.k+1 - a,q.out,q.bad⟩
       rw [show q.k - a+1=q.k+1 - a by omega]
      rw [readQ,dif_pos hq',if_neg hgd',hg,if_neg c,if_neg c2,if_pos c3,e,escapeQ_cut hb (by show a≤q.k+1;omega) (by show q.k+1 < b;omega) (readQ_good h) (by omega)]
      exact hR
     ·rename_i c3
      have hfa:=plainQ_facts l m q hq
      have hfb:=hfa.2.2.2 (readQ_good h)
      have hlt:=(readQ_cut hb f (b - q.k) (it+1) _ q2 h h2 (by omega) (by omega)).2
      obtain⟨g,rfl,hq',hg⟩:=key (by omega)
      obtain⟨hR,_⟩:=readQ_cut hb f g (it+1) _ q2 h h2 (by omega) (by omega)
      refine⟨?_,by omega⟩
      rw [readQ,dif_pos hq',if_neg hgd',hg,if_neg c,if_neg c2,if_neg c3,plainQ_cut hb ha (by omega) (readQ_good h) (by omega)]
      exact hR
  ·cases h
theorem value_cut {k:Nat} (hk:k < l.length) (h:(beginQ l k).k≠0):(valueQ ((l.take (beginQ l k).tx.toNat).drop k)).2=0:=by
 obtain⟨kd,tx,e1,_,e2,e3,e4⟩:=beginQ_fit l k hk h
 simp only at e1 e2
 rw [e2,Int.toNat_natCast]
 have hln:=cut_len (a:=k) e4
 have hl0:0 < ((l.take tx).drop k).length:=by omega
 have hg0:((l.take tx).drop k)[0]'hl0=l[k]:=by
  have:=cut_get (l:=l) (a:=k) (b:=tx) (Nat.le_refl k) e3
  rw [Nat.sub_self,List.getElem?_eq_getElem hk,List.getElem?_eq_getElem hl0] at this
  exact Option.some.inj this
 unfold valueQ
 suffices hs:(beginQ ((l.take tx).drop k) 0).e=0∧(beginQ ((l.take tx).drop k) 0).tx=((l.take tx).drop k).length by rw [if_pos hs]
 unfold beginQ at h e2 ⊢
 rw [dif_pos (by omega)] at h e2 ⊢
 simp only [Int.toNat_natCast,Int.toNat_zero] at h e2 ⊢
 simp only [hg0]
 by_cases h1:Lib.indexByte ([39,34,96]:List UInt8) l[k] < 0
 ·rw [if_pos h1] at h;exact absurd rfl h
 rw [if_neg h1] at h e2 ⊢
 by_cases h2:l[k]=96
 ·rw [if_pos h2] at h e2 ⊢
  by_cases h3:Lib.indexByte (l.drop (k+1)) 96 < 0
  ·rw [if_pos h3] at h;exact absurd rfl h
  rw [if_neg h3] at e2
  obtain⟨n,hn⟩:=Int.eq_ofNat_of_zero_le (Int.not_lt.1 h3)
  rw [hn] at e2
  simp only at e2
  obtain⟨hs1,hs2⟩:=Lib.indexByte_some hn
  have hi:Lib.indexByte (((l.take tx).drop k).drop 1) 96=(n:Int):=by
   have e:((l.take tx).drop k).drop 1=(l.drop (k+1)).take (n+1):=by
    have:=cut_drop (l:=l) (a:=k) (b:=tx) (i:=k+1) (Nat.le_succ k)
    rw [show k+1 - k=1 by omega] at this
    rw [this,show tx - (k+1)=n+1 by omega]
   rw [e]
   exact ix_cut hn
  rw [Nat.zero_add,hi,if_neg (by omega),hln]
  exact⟨rfl,by show (0:Int)+n+2=_;omega⟩
 rw [if_neg h2] at h e2 ⊢
 by_cases h3:(readQ l l[k] l.length 0 ⟨k+1,[],false⟩).1=true
 ·rw [if_pos h3] at e2
  have hq2:(readQ l l[k] l.length 0 ⟨k+1,[],false⟩).2.k=tx:=by simp only at e2;omega
  have hR:=(readQ_cut (a:=k) e4 l.length ((l.take tx).drop k).length 0 ⟨k+1,[],false⟩ (readQ l l[k] l.length 0 ⟨k+1,[],false⟩).2 (Prod.ext h3 rfl) (by omega) (Nat.le_succ k) (by show tx - (k+1)≤_;omega)).1
  have e:shQ k ⟨k+1,[],false⟩=⟨0+1,[],false⟩:=by unfold shQ;simp
  rw [e] at hR
  rw [hR,if_pos rfl,hln]
  refine⟨rfl,?_⟩
  show (((readQ l l[k] l.length 0 ⟨k+1,[],false⟩).2.k - k:Nat):Int)=_
  rw [hq2]
 ·rw [if_neg h3] at h;exact absurd rfl h
end
section
open Go.RowKit
variable {w:World}
def arityI (k:Int):Int × Bool :=
 if k==2||k==4||k==11||k==12||k==13||k==14||k==20||k==23||k==25 then (0,true)
 else if k==10||k==16||k==18 then (1,true)
 else if k==0||k==26||k==27||k==49 then (0,false)
 else if k==3||k==19||k==28||k==33||k==35||k==36||k==42||k==43||k==45||k==46||k==47||k==48||k==50||k==52||k==54||k==55||k==56||k==57||k==58||k==63||k==68 then (1,false)
 else if k==1||k==6||k==7||k==21||k==60||k==66 then (3,false)
 else if k==31||k==59||k==61||k==65 then (4,false)
 else if k==8 then (5,false)
 else (2,false)
theorem arity_walk (k:Int):Calls Tryz.prog 19 #[.int .u8 k] w (fun e w'=>e=.returned (.tuple #[.int .i64 (arityI k).1,.bool (arityI k).2])∧w'=w):=by
 have hA:∀ r,arityI k=r→arityI k=r:=fun _ h=>h
 generalize hr:arityI k=r at *
 have HR:=Lib.hid hr
 clear hA hr
 go_enter Tryz.func19,Tryz.ntmps19
 go_wp2_with fail
 all_goals first|(rename_i h1 h2;exact absurd (h1.symm.trans h2) (by decide))|go_ret2
 all_goals (have h:=HR.out;unfold arityI at h;simp only [*,Bool.false_or,Bool.true_or,Bool.or_true,Bool.or_false,if_true,if_false,Bool.false_eq_true,reduceCtorEq] at h;rw [← h];exact⟨rfl,rfl⟩)
end
section
open Go.RowKit
variable {w:World}
def wordsT (k:Int):List UInt8 :=
 if k==3||k==4 then [32,105,109,112,111,114,116,32,99,111,110,115,116,32,118,97,114,32,116,121,112,101,32]
 else if k==36 then [32,43,32,45,32,33,32,94,32,38,32,60,45,32]
 else if k==37 then [32,124,124,32,38,38,32,61,61,32,33,61,32,60,32,60,61,32,62,32,62,61,32,43,32,45,32,124,32,94,32,42,32,47,32,37,32,60,60,32,62,62,32,38,32,38,94,32]
 else if k==45 then [32,99,104,97,110,32,99,104,97,110,60,45,32,60,45,99,104,97,110,32]
 else if k==52 then [32,43,43,32,45,45,32]
 else if k==53 then [32,61,32,58,61,32,43,61,32,45,61,32,42,61,32,47,61,32,37,61,32,38,61,32,124,61,32,94,61,32,60,60,61,32,62,62,61,32,38,94,61,32]
 else if k==57 then [32,98,114,101,97,107,32,99,111,110,116,105,110,117,101,32,103,111,116,111,32,102,97,108,108,116,104,114,111,117,103,104,32]
 else []
theorem words_walk (k:Int):Calls Tryz.prog 29 #[.int .u8 k] w (fun e w'=>e=.returned (.string ⟨(wordsT k).toArray⟩)∧w'=w):=by
 generalize hr:wordsT k=r at *
 have HR:=Lib.hid hr
 clear hr
 go_enter Tryz.func29,Tryz.ntmps29
 go_wp2_with fail
 all_goals first|(rename_i h1 h2;exact absurd (h1.symm.trans h2) (by decide))|go_ret
 all_goals (have h:=HR.out;unfold wordsT at h;simp only [*,Bool.false_or,Bool.true_or,Bool.or_true,Bool.or_false,if_true,if_false,Bool.false_eq_true,reduceCtorEq] at h;rw [← h];exact⟨rfl,rfl⟩)
def spellB (k:Int) (t:List UInt8):Bool :=
 if k==26 then nameB t
 else if k==27 then ((valueQ t).2==0||Num.kindL t != 0)
 else if k==5 then (t==[]||t==[46])
 else if k==7 then (t==[]||t==[61])
 else if k==15||k==34 then (t==[]||t==[46,46,46])
 else if k==66 then (t==[]||t==[61]||t==[58,61])
 else if wordsT k==[] then t==[]
 else !(t==[])&&!decide (0≤Lib.indexByte t 32)&&Lib.contains (wordsT k) (32::(t++[32]))
end
end Go.Proofs.YtegbdigfbklkaaaGreatDoor
