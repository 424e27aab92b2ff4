import Derived.Test.YtfmpphplbdojbaaGreatDoorQAF
import Derived.Test.YtfmpphplbdojbaaGreatDoorQBB
import Derived.Test.YtfmpphplbdojbaaGreatDoorQBH
namespace Go.Proofs.YtfmpphplbdojbaaGreatDoor
open Lib(hid)
set_option linter.all false
set_option maxHeartbeats 40000000
set_option maxRecDepth 100000
section
open Go.RowKit
variable {w:World}
theorem RA {k:Nat}{o:Obj} (h:w.heap[k]?=some o):k < w.heap.size:=(Ah.1 h).1
theorem eN {b:Nat}{w w':World}{p:Addr}{v:Value} (hb:Below b w w') (hp:p.block < b) (h:w.cell? p=some v):w'.cell? p=some v:=by rw [hb.cell hp];exact h
theorem qD {lo sz n:Nat}{T:TypeId}{v:Value}{xs:List Value}{X:List Nat}{w w':World} (h:w.ownsRow lo T sz v n xs) (hf:Fr X w w') (hX:∀ b∈X,v.ownBlock≠some b):w'.ownsRow lo T sz v n xs:=by
 refine⟨h.1,?_⟩;rcases h.2 with h2|⟨g,cap,cur,h1,h2,h3,h4⟩
 ·exact .inl h2
 ·exact Bg
def ptG (x:Pt3):Grd.Pt:=⟨x.kind,x.kids,x.word⟩
theorem wW (E:Env) (hs:E.s.length<=65536) (k:UInt8) (wd:Int):(lD E k wd).length<=65536:=by
 have ht:(E.text wd).length<=65536:=by
  unfold Env.text;split
  ·exact Cm
  ·split
   ·rw [V',List.length_take];omega
   ·exact Cm
 unfold lD
 repeat' split
 all_goals first|exact ht|decide
theorem qP {lo n:Nat}{a:Option Addr}{cap:Nat}:∀ {l:List Pt3},w.ownsRow lo 46 3 (.slice a n cap) n (CF l)->n=l.length->Grd.tB w a (l.map ptG):=by
 intro l h hn;by_cases h0:l=[]
 ·subst h0;exact .inl rfl
 right
 have hp:0 < l.length:=List.length_pos_iff.2 h0;have hat:∀ (l:List Pt3) (j:Nat) (x:Pt3),l[j]?=some x->∀ i v,(TJ x)[i]?=some v->(CF l)[j*3+i]?=some v:=by
  intro l
  induction l with
  | nil=>intro j x hx;simp at hx
  | cons y l ih =>
   intro j x hx i v hv;have hl:(TJ y).length=3:=rfl;have e:CF (y::l)=TJ y++CF l:=rfl;cases j with
   | zero =>
    simp at hx;subst hx;have hi:i < 3:=by rw [<- hl];exact (Ai.1 hv).1
    rw [e,List.getElem?_append_left (by rw [hl];omega),show 0*3+i=i by omega];exact hv
   | succ j =>
    rw [e,Au (by rw [hl];omega),hl,show (j+1)*3+i - 3=j*3+i by omega];exact ih j x (by simpa using hx) i v hv
 have key:∀ (j:Nat) (x:Pt3),l[j]?=some x->∀ i v,(TJ x)[i]?=some v->∃ b,a=some ⟨b,0,none⟩/\b < w.heap.size/\w.cell? ⟨b,j*3+i,none⟩=some v:=fun j x hx i v hv=>by
  obtain⟨b,e,_,hb,hc⟩:=GA h (hat l j x hx i v hv);exact⟨b,e,hb,hc⟩
 obtain⟨b,e,hb,_⟩:=key 0 l[0] (M' hp) 0 _ rfl;refine⟨b,0,e,hb,fun j p hj=>?_⟩;rw [List.getElem?_map] at hj;cases hx:l[j]? with
 | none=>rw [hx] at hj;cases hj
 | some x =>
  rw [hx] at hj;cases hj;have k0:=key j x hx 0 _ rfl;have k1:=key j x hx 1 _ rfl;have k2:=key j x hx 2 _ rfl;obtain⟨_,e0,_,c0⟩:=k0;obtain⟨_,e1,_,c1⟩:=k1;obtain⟨_,e2,_,c2⟩:=k2;rw [e] at e0 e1 e2;cases e0;cases e1;cases e2;rw [Nat.zero_add];exact⟨c0,c1,c2⟩
mutual
theorem rL (E:Env) (hs:E.s.length<=65536):∀ (t:Tr),∀ x∈parts E t,x.word.length<=65536
 | .mk k wd f t ks,x,hx=>by
  rw [parts,List.mem_cons] at hx;rcases hx with rfl|hx
  ·exact wW E hs k wd
  ·exact GM E hs ks x hx
theorem GM (E:Env) (hs:E.s.length<=65536):∀ (ts:List Tr),∀ x∈kC E ts,x.word.length<=65536
 | [],x,hx=>by rw [kC] at hx;cases hx
 | t::ts,x,hx=>by
  rw [kC,List.mem_append] at hx;rcases hx with hx|hx
  ·exact rL E hs t x hx
  ·exact GM E hs ts x hx
end
end
section
open Go.RowKit
variable {w:World}
def kE (s:List UInt8):uH:=match FH s with
 | .bad e a=>.bad e a
 | .ok l p _=>.ok l p
theorem fP (s:List UInt8) (hT:NC w):Calls Tryz.prog 42 #[.string ⟨s.toArray⟩] w (xS (kE s) w):=by
 have h0:=heap_alloc_new w (Obj.cells #[.int .i64 0,.int .i64 0] 35);have hB0:=(J' w.heap.size w).alloc (C' _) (Obj.cells #[.int .i64 0,.int .i64 0] 35);have HA:=fun (w1:World) h=>BR (w:=w1) s h
 have HT:=hid hT;clear hT;have hR:kE s=match FH s with
  | .bad e a=>.bad e a
  | .ok l p _=>.ok l p:=rfl
 rw [hR];clear hR;have hlt0:=lt_of_block h0;cases hA:FH s with
 | bad er a =>
  rw [hA] at HA;unfold fJ qA at HA;go_enter Tryz.func42,Tryz.ntmps42;go_upto_region 1 with fail;generalize w.alloc (Obj.cells #[.int .i64 0,.int .i64 0] 35)=wA at *;go_wp2_with (go_at_call 63;refine (HA wA (HT.out.below hB0)).mono ?_;rintro e w1 ⟨rfl,hb⟩;have k6:=(hb.block _ hlt0).trans h0;have hBw:=dA hB0 hb;clear hb);have h3:=(Ac w1 (Obj.cells #[.int .i64 (er:Int),.int .i64 (a:Int)] 35) w.heap.size (lt_of_block k6)).trans k6;have h4:=heap_alloc_new w1 (Obj.cells #[.int .i64 (er:Int),.int .i64 (a:Int)] 35);have hB2:=hid (hBw.alloc hBw.size (Obj.cells #[.int .i64 (er:Int),.int .i64 (a:Int)] 35));have HS:=hid (show w.heap.size≠w1.heap.size by have:=lt_of_block k6;omega);clear h0 hB0 k6 hBw;generalize w1.alloc (Obj.cells #[.int .i64 (er:Int),.int .i64 (a:Int)] 35)=w2 at *;obtain⟨c0,c1,f0,f1⟩:=tA h3;obtain⟨e0,e1,_⟩:=tA h4;have u9:=hid (VD h3 (.int .i64 (er:Int)) (.int .i64 (a:Int)));clear h3 h4;go_region
  all_goals (go_wp2_with fail)
  all_goals
   have HB9:=hid ((hB2.out.setCell (p:=⟨w.heap.size,0,none⟩) (C' _) (.int .i64 (er:Int))).setCell (p:=⟨w.heap.size,1,none⟩) (C' _) (.int .i64 (a:Int)));obtain⟨q0,q1,_⟩:=tA u9.out;generalize (w2.setCell ⟨w.heap.size,0,none⟩ (.int .i64 (er:Int))).setCell ⟨w.heap.size,1,none⟩ (.int .i64 (a:Int))=w9 at *;refine bodyPost_ret (v:=.tuple #[.slice none 0 0,.slice none 0 0,qA er a]) ?_ rfl ⟨rfl,HB9.out.drew⟩;simp [results,Tryz.results42,go_sem,q0,q1,qA]
 | ok l p m =>
  rw [hA] at HA;unfold fJ qA at HA;go_enter Tryz.func42,Tryz.ntmps42;go_upto_region 1 with fail;generalize w.alloc (Obj.cells #[.int .i64 0,.int .i64 0] 35)=wA at *;go_wp2_with (go_at_call 63;refine (HA wA (HT.out.below hB0)).mono ?_;rintro e w1 ⟨tv,pv,rfl,hr1,hr2,hb⟩;obtain⟨va,vc,rfl⟩:=bE hr1;obtain⟨pa,pc,rfl⟩:=bE hr2;have k6:=(hb.block _ hlt0).trans h0;have hBw:=dA hB0 hb;clear hb);have hsl:=hBw.size;have h3:=(Ac w1 (Obj.cells #[.int .i64 0,.int .i64 0] 35) w.heap.size (lt_of_block k6)).trans k6;have h4:=heap_alloc_new w1 (Obj.cells #[.int .i64 0,.int .i64 0] 35);have hB2:=hid (hBw.alloc hBw.size (Obj.cells #[.int .i64 0,.int .i64 0] 35));have HS:=hid (show w.heap.size≠w1.heap.size by have:=lt_of_block k6;omega);have HR1:=hid (hr1.alloc (Obj.cells #[.int .i64 0,.int .i64 0] 35));have HR2:=hid (hr2.alloc (Obj.cells #[.int .i64 0,.int .i64 0] 35));clear h0 hB0 k6 hBw hr1 hr2;generalize w1.alloc (Obj.cells #[.int .i64 0,.int .i64 0] 35)=w2 at *;obtain⟨c0,c1,f0,f1⟩:=tA h3;obtain⟨e0,e1,_⟩:=tA h4;have u9:=hid (VD h3 (.int .i64 0) (.int .i64 0));clear h3 h4;go_region
  all_goals (go_wp2_with fail)
  all_goals
   have HB9:=hid ((hB2.out.setCell (p:=⟨w.heap.size,0,none⟩) (C' _) (.int .i64 0)).setCell (p:=⟨w.heap.size,1,none⟩) (C' _) (.int .i64 0));have HO8:=hid (rA (rA HR1.out ⟨w.heap.size,0,none⟩ Ib (.int .i64 0)) ⟨w.heap.size,1,none⟩ Ib (.int .i64 0));have HO9:=hid (rA (rA HR2.out ⟨w.heap.size,0,none⟩ Ib (.int .i64 0)) ⟨w.heap.size,1,none⟩ Ib (.int .i64 0));obtain⟨q0,q1,_⟩:=tA u9.out;generalize (w2.setCell ⟨w.heap.size,0,none⟩ (.int .i64 0)).setCell ⟨w.heap.size,1,none⟩ (.int .i64 0)=w9 at *;refine bodyPost_ret (v:=.tuple #[.slice va l.length vc,.slice pa p.length pc,qA 0 0]) ?_ rfl ⟨_,_,rfl,(jE HO8.out Cf).drew,(jE HO9.out Cf).drew,HB9.out.drew⟩;simp [results,Tryz.results42,go_sem,q0,q1,qA]
theorem IG (s:List UInt8) (l0:List Tk):∀ (r:List Tk) (i:Nat) (st:vH) (l:List Tk) (p:List Int) (m:Nat),rF s l0 r i st=.ok l p m->st.pair.length=l0.length->i+r.length=l0.length->(∀ x∈st.pair,-1<=x/\x<=1000000)->(∀ x∈st.stk,x<=1000000)->l0.length<=1000000 ->
  l=l0/\p.length=l0.length/\∀ x∈p,-1<=x/\x<=1000000
 | [],i,st,l,p,m,h,h1,h2,h3,h4,h5=>by
  rw [rF] at h;split at h
  ·cases h;exact⟨rfl,h1,h3⟩
  ·exact C4
 | t::r,i,st,l,p,m,h,h1,h2,h3,h4,h5=>by
  have hset:∀ (q:List Int) (j:Nat) (y:Int),(∀ x∈q,-1<=x/\x<=1000000)->-1<=y/\y<=1000000->∀ x∈q.set j y,-1<=x/\x<=1000000:=fun q j y hq hy x hx=>by
   rcases List.mem_or_eq_of_mem_set hx with hx|rfl
   ·exact hq x hx
   ·exact hy
  simp only [Ab] at h2;have hi:i<=1000000:=Cf
  have ht:st.top<=1000000:=by
   unfold vH.top;cases hg:st.stk.getLast? with
   | none=>simp
   | some x=>exact h4 x (List.mem_of_getLast? hg)
  rw [rF] at h;split at h
  ·exact Be
  ·split at h
   ·split at h
    ·exact C4
    ·refine IG s l0 r (i+1) _ l p m h Ee Cf (hset _ _ _ h3 Cf) (fun x hx=>?_) h5;rw [List.mem_append,List.mem_singleton] at hx;rcases hx with hx|rfl
     ·exact h4 x hx
     ·exact hi
   ·split at h
    ·split at h
     ·exact C4
     ·exact IG s l0 r (i+1) _ l p m h Ee Cf (hset _ _ _ (hset _ _ _ (hset _ _ _ h3 Cf) Cf) Cf) (fun x hx=>h4 x ((List.dropLast_sublist _).subset hx)) h5
    ·exact Be
theorem RG (s:List UInt8) (l0:List Tk):∀ (r:List Tk) (i:Nat) (st:vH) (e a:Nat),rF s l0 r i st=.bad e a->e=5∨e=6
 | [],i,st,e,a,h=>by
  rw [rF] at h;split at h
  ·exact C4
  ·cases h;exact .inl rfl
 | t::r,i,st,e,a,h=>by
  rw [rF] at h;split at h
  ·exact Bv
  ·split at h
   ·split at h
    ·cases h;exact .inr rfl
    ·exact Bv
   ·split at h
    ·split at h
     ·cases h;exact .inl rfl
     ·exact Bv
    ·exact Bv
theorem gM:LJ kE where
 calls:=fun s w h=>fP s h
 fit:=fun s l p h=>by
  unfold kE at h;split at h
  ·exact C4
  ·rename_i l2 p2 m hW;cases h;unfold FH at hW;split at hW
   ·cases hW
   ·rename_i l3 hS;obtain⟨h1,h2,h3⟩:=gJ hS;obtain⟨rfl,h5,h6⟩:=IG s l3 l3 0 _ _ _ _ hW Cm Cf (fun x hx=>Hf) (fun x hx=>by cases hx) Cf;exact⟨fun t ht=>⟨(h1 t ht).1,(h1 t ht).2.1⟩,Cf,h5,fun x hx=>by have:=h6 x hx;omega⟩
 bad:=fun s e a h=>by
  unfold kE at h;split at h
  ·rename_i hW;cases h;unfold FH at hW;split at hW
   ·rename_i hS;cases hW;have:=(yN hS).1;omega
   ·have:=RG _ _ _ _ _ _ _ hW;omega
  ·exact C4
end
