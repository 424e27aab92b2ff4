import Derived.Test.YtjdllofmhglmiaaGreatDoorQAM
namespace Go.Proofs.YtjdllofmhglmiaaGreatDoor
open Lib(hid)
set_option linter.all false
set_option maxHeartbeats 40000000
set_option maxRecDepth 100000
section
open Go.RowKit
variable {w:World}
def kE (s:List UInt8):uH:=match FH s with
 | .bad e a=>.bad e a
 | .ok l p _=>.ok l p
theorem fP (s:List UInt8) (hT:NC w):Calls Tryz.prog 26 #[.string ⟨s.toArray⟩] w (xS (kE s) w):=by
 have h0:=B8 w (Obj.cells #[i8 0,i8 0] 28);have hB0:=(N' w.heap.size w).alloc (C' _) (Obj.cells #[i8 0,i8 0] 28);have HA:=fun (w1:World) h=>BR (w:=w1) s h
 have HT:=hid hT;clear hT;have hR:kE s=match FH s with
  | .bad e a=>.bad e a
  | .ok l p _=>.ok l p:=rfl
 rw [hR];clear hR;have hlt0:=lt_of_block h0;cases hA:FH s with
 | bad er a =>
  rw [hA] at HA;unfold fJ qA at HA
  go_in
  go_upto_region 1 with fail;generalize w.alloc (Obj.cells #[i8 0,i8 0] 28)=wA at *;go_wp2_with (go_at_call 37;refine (HA wA (HT.out.below hB0)).mono ?_;rintro e w1 ⟨rfl,hb⟩;have k6:=(hb.block _ hlt0).trans h0;have hBw:=dA hB0 hb;clear hb);have h3:=(Af w1 (Obj.cells #[i8 (er:Int),i8 (a:Int)] 28) w.heap.size (lt_of_block k6)).trans k6;have h4:=B8 w1 (Obj.cells #[i8 (er:Int),i8 (a:Int)] 28);have hB2:=hid (hBw.alloc hBw.size (Obj.cells #[i8 (er:Int),i8 (a:Int)] 28));have HS:=hid (show w.heap.size≠w1.heap.size by have:=lt_of_block k6;omega);clear h0 hB0 k6 hBw;generalize w1.alloc (Obj.cells #[i8 (er:Int),i8 (a:Int)] 28)=w2 at *;obtain⟨c0,c1,f0,f1⟩:=tA h3;obtain⟨e0,e1,_⟩:=tA h4;have u9:=hid (VD h3 (i8 (er:Int)) (i8 (a:Int)));clear h3 h4;go_region
  all_goals (go_wp2_with fail)
  all_goals
   have HB9:=hid ((hB2.out.setCell (p:=(y8 w.heap.size 0)) (C' _) (i8 (er:Int))).setCell (p:=(y8 w.heap.size 1)) (C' _) (i8 (a:Int)));obtain⟨q0,q1,_⟩:=tA u9.out;generalize (w2.setCell (y8 w.heap.size 0) (i8 (er:Int))).setCell (y8 w.heap.size 1) (i8 (a:Int))=w9 at *;refine Ca (v:=.tuple #[.slice none 0 0,.slice none 0 0,qA er a]) ?_ rfl ⟨rfl,HB9.out.drew⟩;simp [results,Tryz.results26,go_sem,q0,q1,qA]
 | ok l p m =>
  rw [hA] at HA;unfold fJ qA at HA
  go_in
  go_upto_region 1 with fail;generalize w.alloc (Obj.cells #[i8 0,i8 0] 28)=wA at *;go_wp2_with (go_at_call 37;refine (HA wA (HT.out.below hB0)).mono ?_;rintro e w1 ⟨tv,pv,rfl,hr1,hr2,hb⟩;obtain⟨va,vc,rfl⟩:=bE hr1;obtain⟨pa,pc,rfl⟩:=bE hr2;have k6:=(hb.block _ hlt0).trans h0;have hBw:=dA hB0 hb;clear hb);have hsl:=hBw.size;have h3:=(Af w1 (Obj.cells #[i8 0,i8 0] 28) w.heap.size (lt_of_block k6)).trans k6;have h4:=B8 w1 (Obj.cells #[i8 0,i8 0] 28);have hB2:=hid (hBw.alloc hBw.size (Obj.cells #[i8 0,i8 0] 28));have HS:=hid (show w.heap.size≠w1.heap.size by have:=lt_of_block k6;omega);have HR1:=hid (hr1.alloc (Obj.cells #[i8 0,i8 0] 28));have HR2:=hid (hr2.alloc (Obj.cells #[i8 0,i8 0] 28));clear h0 hB0 k6 hBw hr1 hr2;generalize w1.alloc (Obj.cells #[i8 0,i8 0] 28)=w2 at *;obtain⟨c0,c1,f0,f1⟩:=tA h3;obtain⟨e0,e1,_⟩:=tA h4;have u9:=hid (VD h3 (i8 0) (i8 0));clear h3 h4;go_region
  all_goals (go_wp2_with fail)
  all_goals
   have HB9:=hid ((hB2.out.setCell (p:=(y8 w.heap.size 0)) (C' _) (i8 0)).setCell (p:=(y8 w.heap.size 1)) (C' _) (i8 0));have HO8:=hid (rA (rA HR1.out (y8 w.heap.size 0) Jf (i8 0)) (y8 w.heap.size 1) Jf (i8 0));have HO9:=hid (rA (rA HR2.out (y8 w.heap.size 0) Jf (i8 0)) (y8 w.heap.size 1) Jf (i8 0));obtain⟨q0,q1,_⟩:=tA u9.out;generalize (w2.setCell (y8 w.heap.size 0) (i8 0)).setCell (y8 w.heap.size 1) (i8 0)=w9 at *;refine Ca (v:=.tuple #[.slice va l.length vc,.slice pa p.length pc,qA 0 0]) ?_ rfl ⟨_,_,rfl,(jE HO8.out Cs).drew,(jE HO9.out Cs).drew,HB9.out.drew⟩;simp [results,Tryz.results26,go_sem,q0,q1,qA]
theorem IG (s:List UInt8) (l0:List Tk):∀ (r:List Tk) (i:Nat) (st:vH) (l:List Tk) (p:List Int) (m:Nat),rF s l0 r i st=.ok l p m->st.pair.length=l0.length->i+r.length=l0.length->(∀ x∈st.pair,-1<=x/\x<=1000000)->(∀ x∈st.stk,x<=1000000)->l0.length<=1000000 ->
  l=l0/\p.length=l0.length/\∀ x∈p,-1<=x/\x<=1000000
 | [],i,st,l,p,m,h,h1,h2,h3,h4,h5=>by
  rw [rF] at h;split at h
  ·cases h;exact⟨rfl,h1,h3⟩
  ·cases h
 | t::r,i,st,l,p,m,h,h1,h2,h3,h4,h5=>by
  have hset:∀ (q:List Int) (j:Nat) (y:Int),(∀ x∈q,-1<=x/\x<=1000000)->-1<=y/\y<=1000000->∀ x∈q.set j y,-1<=x/\x<=1000000:=fun q j y hq hy x hx=>by
   rcases List.mem_or_eq_of_mem_set hx with hx|rfl
   ·exact hq x hx
   ·exact hy
  simp only [Ae] at h2;have hi:i<=1000000:=Cs
  have ht:st.top<=1000000:=by
   unfold vH.top;cases hg:st.stk.getLast? with
   | none=>simp
   | some x=>exact h4 x (List.mem_of_getLast? hg)
  rw [rF] at h;split at h
  ·exact zdb
  ·split at h
   ·split at h
    ·cases h
    ·refine IG s l0 r (i+1) _ l p m h Ea Cs (hset _ _ _ h3 Cs) (fun x hx=>?_) h5;rw [List.mem_append,List.mem_singleton] at hx;rcases hx with hx|rfl
     ·exact h4 x hx
     ·exact hi
   ·split at h
    ·split at h
     ·cases h
     ·exact IG s l0 r (i+1) _ l p m h Ea Cs (hset _ _ _ (hset _ _ _ (hset _ _ _ h3 Cs) Cs) Cs) (fun x hx=>h4 x ((List.dropLast_sublist _).subset hx)) h5
    ·exact zdb
theorem RG (s:List UInt8) (l0:List Tk):∀ (r:List Tk) (i:Nat) (st:vH) (e a:Nat),rF s l0 r i st=.bad e a->e=5∨e=6
 | [],i,st,e,a,h=>by
  rw [rF] at h;split at h
  ·cases h
  ·cases h;exact .inl rfl
 | t::r,i,st,e,a,h=>by
  rw [rF] at h;split at h
  ·exact zd0
  ·split at h
   ·split at h
    ·cases h;exact .inr rfl
    ·exact zd0
   ·split at h
    ·split at h
     ·cases h;exact .inl rfl
     ·exact zd0
    ·exact zd0
theorem gM:LJ kE where
 calls:=fun s w h=>fP s h
 fit:=fun s l p h=>by
  unfold kE at h;split at h
  ·cases h
  ·rename_i l2 p2 m hW;cases h;unfold FH at hW;split at hW
   ·cases hW
   ·rename_i l3 hS;obtain⟨h1,h2,h3⟩:=gJ hS;obtain⟨rfl,h5,h6⟩:=IG s l3 l3 0 _ _ _ _ hW Cu Cs (fun x hx=>by rw [List.eq_of_mem_replicate hx];decide) (fun x hx=>by cases hx) Cs;exact⟨fun t ht=>⟨(h1 t ht).1,(h1 t ht).2.1⟩,Cs,h5,fun x hx=>by have:=h6 x hx;omega⟩
 bad:=fun s e a h=>by
  unfold kE at h;split at h
  ·rename_i hW;cases h;unfold FH at hW;split at hW
   ·rename_i hS;cases hW;have:=(yN hS).1;omega
   ·have:=RG _ _ _ _ _ _ _ hW;omega
  ·cases h
end
section
open Go.RowKit
variable {w:World}
theorem RA {k:Nat}{o:Obj} (h:w.heap[k]?=some o):k < w.heap.size:=(Ak.1 h).1
theorem qD {lo sz n:Nat}{T:TypeId}{v:Value}{xs:List Value}{X:List Nat}{w w':World} (h:w.ownsRow lo T sz v n xs) (hf:Fr X w w') (hX:∀ b∈X,v.ownBlock≠some b):w'.ownsRow lo T sz v n xs:=by
 exact zbe
def ptG (x:Pt3):Grd.Pt:=⟨x.kind,x.kids,x.word⟩
theorem qP {lo n:Nat}{a:Option Addr}{cap:Nat}:∀ {l:List Pt3},w.ownsRow lo 41 3 (.slice a n cap) n (CF l)->n=l.length->Grd.tB w a (l.map ptG):=by
 intro l h hn;by_cases h0:l=[]
 ·subst h0;exact .inl rfl
 right
 have hp:0 < l.length:=List.length_pos_iff.2 h0;have hat:∀ (l:List Pt3) (j:Nat) (x:Pt3),l[j]?=some x->∀ i v,(TJ x)[i]?=some v->(CF l)[j*3+i]?=some v:=by
  intro l
  induction l with
  | nil=>intro j x hx;simp at hx
  | cons y l ih =>
   intro j x hx i v hv;have hl:(TJ y).length=3:=rfl;have e:CF (y::l)=TJ y++CF l:=rfl;cases j with
   | zero =>
    simp at hx;subst hx;have hi:i < 3:=by rw [<- hl];exact (Al.1 hv).1
    rw [e,List.getElem?_append_left (by rw [hl];omega),show 0*3+i=i by omega];exact hv
   | succ j =>
    rw [e,Ax (by rw [hl];omega),hl,show (j+1)*3+i - 3=j*3+i by omega];exact ih j x Hm i v hv
 have key:∀ (j:Nat) (x:Pt3),l[j]?=some x->∀ i v,(TJ x)[i]?=some v->∃ b,a=some (y8 b 0)/\b < w.heap.size/\w.cell? ⟨b,j*3+i,none⟩=some v:=fun j x hx i v hv=>by
  obtain⟨b,e,_,hb,hc⟩:=GA h (hat l j x hx i v hv);exact⟨b,e,hb,hc⟩
 obtain⟨b,e,hb,_⟩:=key 0 l[0] (O' hp) 0 _ rfl;refine⟨b,0,e,hb,fun j p hj=>?_⟩;rw [List.getElem?_map] at hj;cases hx:l[j]? with
 | none=>rw [hx] at hj;cases hj
 | some x =>
  rw [hx] at hj;cases hj;have k0:=key j x hx 0 _ rfl;have k1:=key j x hx 1 _ rfl;have k2:=key j x hx 2 _ rfl;obtain⟨_,e0,_,c0⟩:=k0;obtain⟨_,e1,_,c1⟩:=k1;obtain⟨_,e2,_,c2⟩:=k2;rw [e] at e0 e1 e2;cases e0;cases e1;cases e2;rw [Nat.zero_add];exact⟨c0,c1,c2⟩
end
section
theorem EX8 {b:UInt8}{r:List UInt8} (h:b.toNat < 128):dec (b::r)=(b.toNat,1):=by
 have h0:(ByteArray.mk (b::r).toArray).size≠0:=Fe
 unfold dec Lib.decodeGo;rw [Bc h0,Lib.decode_at];have hb:((ByteArray.mk (b::r).toArray).get! 0).toNat=b.toNat:=by rw [pJ];rfl
 rw [hb];unfold Lib.decodeN;rw [Bb h]
theorem MX2 {l r:List UInt8}{k:Nat}{b:UInt8} (hd:l.drop k=b::r) (hk:k < l.length) (h:b.toNat < 128):vB l k=((b.toNat:Int),1):=by
 unfold vB;rw [Bc Cs,Ai,hd,EX8 h,Bc Cv]
 rfl
end
