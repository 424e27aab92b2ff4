import Derived.Shelf.Strings.SlTrimAscii
import Derived.Test.YtjdllofmhglmiaaGreatDoorQAI
namespace Go.Proofs.YtjdllofmhglmiaaGreatDoor
open Lib(hid)
set_option linter.all false
set_option maxHeartbeats 40000000
set_option maxRecDepth 100000
section
open Go.RowKit
variable {w:World}
theorem oT (l:List UInt8) (w:World):Calls Tryz.prog 219 #[.string ⟨l.toArray⟩,.string ⟨#[32,9,13,10]⟩] w fun e w'=>e=.returned (.string ⟨(Lib.trimLeftS l [32,9,13,10]).toArray⟩)/\Below w.heap.size w w' :=
 Any.strings_TrimLeft_laid Tryz.lays161 Cw ⟨l.toArray⟩ ⟨#[32,9,13,10]⟩ w Ct (ascii_of_all Ct)
theorem mI (l cs:List UInt8):(Lib.trimLeftS l cs).length<=l.length:=by
 unfold Lib.trimLeftS;exact (List.dropWhile_sublist _).length_le
theorem AL {l p:List UInt8} (h:Lib.hasPrefix l p=true):p.length<=l.length:=(List.isPrefixOf_iff_prefix.1 h).length_le
theorem WJ (sub:List UInt8):∀ l,Lib.index l sub < 0∨Lib.index l sub+sub.length<=l.length
 | []=>by
  unfold Lib.index;split
  ·rename_i h
   right
   rw [List.isEmpty_iff.1 h];simp
  ·left;decide
 | b::l=>by
  unfold Lib.index;have ih:=WJ sub l;split
  ·rename_i h
   right
   have:=AL (p:=sub) (l:=b::l) h;omega
  ·split
   ·left;decide
   ·rename_i h;simp only [Bh] at h;simp only [Ae];omega
def cB (l:List UInt8) (k:Nat):Int × Int :=
 if ((vB l k).1==65279)=true then (10,k+(vB l k).2)
 else if RI (vB l k).1=true then (10,(l.length:Int) - ((Lib.trimLeftS (l.drop k) [32,9,13,10]).length:Int))
 else if Lib.hasPrefix (l.drop k) [47,47]=true then (if decide (0<=Lib.indexByte (l.drop k) 10)=true then (11,k+Lib.indexByte (l.drop k) 10) else (11,(l.length:Int)))
 else if Lib.hasPrefix (l.drop k) [47,42]=true then (if decide (0<=Lib.index (l.drop (k+2)) [42,47])=true then (12,k+Lib.index (l.drop (k+2)) [42,47]+4) else (0,0))
 else if oB (vB l k).1=true then (uI l k,((k+tF (l.drop k):Nat):Int))
 else if ((vB l k).1==59)=true then (9,(k:Int)+1)
 else if ((Num.YE l k).2.2 != 15)=true then ((Num.YE l k).1,(Num.YE l k).2.1)
 else if ((YA l k).e != 15)=true then ((YA l k).k,(YA l k).tx)
 else if decide (0 < CG (l.drop k))=true then (8,(k:Int)+(CG (l.drop k):Int))
 else (0,0)
theorem zT (l:List UInt8) (k:Nat) (hs:l.length<=65536) (hk:k < l.length) (hT:NC w):Calls Tryz.prog 183 #[.string ⟨l.toArray⟩,i8 k] w (fun e w'=>e=.returned (.tuple #[.int .u8 (cB l k).1,i8 (cB l k).2])/\Below w.heap.size w w'):=by
 have hr2:=oI l k hk;have hW:=YK l k hs Cs (w:=w);have hwn:=uL (l.drop k);have hsn:CG (l.drop k)<=l.length - k:=by have:=LH (l.drop k) (min 3 (l.drop k).length);simp only [Ab] at this;unfold CG;simp only [Ab];omega
 have htl:=mI (l.drop k) [32,9,13,10];have hib:=cW (l.drop k) 10;have hxl:=WJ [42,47] (l.drop (k+2));have hpl:Lib.hasPrefix (l.drop k) [47,42]=true->2<=l.length - k:=fun h=>by have:=AL h;simpa using this
 simp only [Ab,Ae,Am] at hwn htl hib hxl;have hRd:=QI (w:=w) l k Cs hT;have hWd:=fun w=>YK l k hs Cs (w:=w)
 have hSc:=fun w=>Num.yU l (k:Int) w Cs
 have hQs:=fun w hT=>rR l (k:Int) Cs hT (w:=w)
 have hTr:=fun w=>oT (l.drop k) w
 have hSg:=fun w=>cU (l.drop k) Fb (w:=w)
 have hP1:=fun w=>Num.gN (l.drop k) [47,47] w
 have hP2:=fun w=>Num.gN (l.drop k) [47,42] w
 have hIb:=fun w=>Tryz.strings_IndexByte ⟨(l.drop k).toArray⟩ 10 w
 have hc9:((10:Int).toNat.toUInt8)=10:=Ct
 simp only [hc9] at hIb;obtain⟨mx,hmx⟩:=hT.2;have hIx:=fun w hm=>Tryz.strings_Index ⟨(l.drop (k+2)).toArray⟩ ⟨#[42,47]⟩ mx w (by simp only [ByteArray.size,List.size_toArray,Ab];omega) hm
 have hMX:=hid hmx;have hTT:=hid hT;have e:cB l k=cB l k:=rfl
 conv at e=>rhs;unfold cB
 rw [e];clear e hmx hT hW;simp only [] at hIb hIx hSc hQs;generalize vB l k=r at *;generalize Num.YE l k=sc at *;generalize YA l k=bq at *;generalize uI l k=wk at *;generalize tF (l.drop k)=wn at *;generalize CG (l.drop k)=sn at *;generalize Lib.indexByte (l.drop k) 10=ib at *;generalize Lib.index (l.drop (k+2)) [42,47]=xl at *;generalize Lib.hasPrefix (l.drop k) [47,47]=p1 at *;generalize Lib.hasPrefix (l.drop k) [47,42]=p2 at *;generalize Lib.trimLeftS (l.drop k) [32,9,13,10]=tr at *;have hdt2:(l.drop (k+2)).take (l.length - k - 2)=l.drop (k+2):=Au Cv;have hdt:(l.drop k).take (l.length - k)=l.drop k:=Au Cu;cases d0:r.1==65279 with
 | true =>
  rw [Bb rfl];have hw0:IntKind.i64.wrap ((k:Int)+r.2)=(k:Int)+r.2:=IntWalk.i64_in _ Cs
  go_in
  exact zaa
 | false =>
 rw [Bc Cu];cases d1:RI r.1 with
 | true =>
  rw [Bb rfl];have hw0:IntKind.i64.wrap ((l.length:Int) - (tr.length:Int))=(l.length:Int) - (tr.length:Int):=IntWalk.i64_in _ Cs
  go_in
  exact zaa
 | false =>
 rw [Bc Cu];cases d2:p1 with
 | true =>
  rw [Bb rfl];cases e1:decide (0<=ib) with
  | true =>
   rw [Bb rfl];have hib0:0<=ib:=of_decide_eq_true e1;have hw0:IntKind.i64.wrap ((k:Int)+ib)=(k:Int)+ib:=IntWalk.i64_in _ Cs
   go_in
   go_wp2_with (first
  | (go_at_call 217;refine hRd.mono ?_;rintro e w1 ⟨rfl,hB⟩)
  | (go_at_call 218;refine (uC _).mono ?_;rintro e w2 ⟨rfl,rfl⟩)
  | (go_at_call 219;refine (hTr _).mono ?_;rintro e w3 ⟨rfl,hb3⟩;replace hB:=dA hB hb3)
  | (go_at_call 220;refine (hP1 _).mono ?_;rintro e w4 ⟨rfl,rfl⟩)
  | (go_at_call 220;refine (hP2 _).mono ?_;rintro e w5 ⟨rfl,rfl⟩)
  | (go_at_call 221;refine (hIb _).mono ?_;rintro e w6 ⟨rfl,rfl⟩)
  | (go_at_call 147;refine (hIx _ (aA hB hMX.out)).mono ?_;rintro e w7 ⟨rfl,rfl⟩)
  | (go_at_call 222;refine (XA _).mono ?_;rintro e w8 ⟨rfl,hb8⟩;replace hB:=dA hB hb8)
  | (go_at_call 223;refine (hWd _).mono ?_;rintro e w9 ⟨rfl,hb9⟩;replace hB:=dA hB hb9)
  | (go_at_call 224;refine (hSc _).mono ?_;rintro e wa ⟨rfl,hba⟩;replace hB:=dA hB hba)
  | (go_at_call 225;refine (hQs _ (hTT.out.below hB)).mono ?_;rintro e wb ⟨rfl,hbb⟩;replace hB:=dA hB hbb)
  | (go_at_call 226;refine (hSg _).mono ?_;rintro e wc ⟨rfl,rfl⟩))
   go_ret2;exact⟨rfl,hB⟩
  | false =>
   rw [Bc Cu]
   go_in
   go_wp2_with (first
  | (go_at_call 217;refine hRd.mono ?_;rintro e w1 ⟨rfl,hB⟩)
  | (go_at_call 218;refine (uC _).mono ?_;rintro e w2 ⟨rfl,rfl⟩)
  | (go_at_call 219;refine (hTr _).mono ?_;rintro e w3 ⟨rfl,hb3⟩;replace hB:=dA hB hb3)
  | (go_at_call 220;refine (hP1 _).mono ?_;rintro e w4 ⟨rfl,rfl⟩)
  | (go_at_call 220;refine (hP2 _).mono ?_;rintro e w5 ⟨rfl,rfl⟩)
  | (go_at_call 221;refine (hIb _).mono ?_;rintro e w6 ⟨rfl,rfl⟩)
  | (go_at_call 147;refine (hIx _ (aA hB hMX.out)).mono ?_;rintro e w7 ⟨rfl,rfl⟩)
  | (go_at_call 222;refine (XA _).mono ?_;rintro e w8 ⟨rfl,hb8⟩;replace hB:=dA hB hb8)
  | (go_at_call 223;refine (hWd _).mono ?_;rintro e w9 ⟨rfl,hb9⟩;replace hB:=dA hB hb9)
  | (go_at_call 224;refine (hSc _).mono ?_;rintro e wa ⟨rfl,hba⟩;replace hB:=dA hB hba)
  | (go_at_call 225;refine (hQs _ (hTT.out.below hB)).mono ?_;rintro e wb ⟨rfl,hbb⟩;replace hB:=dA hB hbb)
  | (go_at_call 226;refine (hSg _).mono ?_;rintro e wc ⟨rfl,rfl⟩))
   go_ret2;exact⟨rfl,hB⟩
 | false =>
 rw [Bc Cu];cases d3:p2 with
 | true =>
  rw [Bb rfl];have h2k:=hpl d3;cases e1:decide (0<=xl) with
  | true =>
   rw [Bb rfl];have hxl0:0<=xl:=of_decide_eq_true e1;have hw0:IntKind.i64.wrap ((k:Int)+xl)=(k:Int)+xl:=IntWalk.i64_in _ Cs;have hw1:IntKind.i64.wrap ((k:Int)+xl+4)=(k:Int)+xl+4:=IntWalk.i64_in _ Cs
   go_in
   go_wp2_with (first
  | (go_at_call 217;refine hRd.mono ?_;rintro e w1 ⟨rfl,hB⟩)
  | (go_at_call 218;refine (uC _).mono ?_;rintro e w2 ⟨rfl,rfl⟩)
  | (go_at_call 219;refine (hTr _).mono ?_;rintro e w3 ⟨rfl,hb3⟩;replace hB:=dA hB hb3)
  | (go_at_call 220;refine (hP1 _).mono ?_;rintro e w4 ⟨rfl,rfl⟩)
  | (go_at_call 220;refine (hP2 _).mono ?_;rintro e w5 ⟨rfl,rfl⟩)
  | (go_at_call 221;refine (hIb _).mono ?_;rintro e w6 ⟨rfl,rfl⟩)
  | (go_at_call 147;refine (hIx _ (aA hB hMX.out)).mono ?_;rintro e w7 ⟨rfl,rfl⟩)
  | (go_at_call 222;refine (XA _).mono ?_;rintro e w8 ⟨rfl,hb8⟩;replace hB:=dA hB hb8)
  | (go_at_call 223;refine (hWd _).mono ?_;rintro e w9 ⟨rfl,hb9⟩;replace hB:=dA hB hb9)
  | (go_at_call 224;refine (hSc _).mono ?_;rintro e wa ⟨rfl,hba⟩;replace hB:=dA hB hba)
  | (go_at_call 225;refine (hQs _ (hTT.out.below hB)).mono ?_;rintro e wb ⟨rfl,hbb⟩;replace hB:=dA hB hbb)
  | (go_at_call 226;refine (hSg _).mono ?_;rintro e wc ⟨rfl,rfl⟩))
   go_ret2;exact⟨rfl,hB⟩
  | false =>
   rw [Bc Cu]
   go_in
   go_wp2_with (first
  | (go_at_call 217;refine hRd.mono ?_;rintro e w1 ⟨rfl,hB⟩)
  | (go_at_call 218;refine (uC _).mono ?_;rintro e w2 ⟨rfl,rfl⟩)
  | (go_at_call 219;refine (hTr _).mono ?_;rintro e w3 ⟨rfl,hb3⟩;replace hB:=dA hB hb3)
  | (go_at_call 220;refine (hP1 _).mono ?_;rintro e w4 ⟨rfl,rfl⟩)
  | (go_at_call 220;refine (hP2 _).mono ?_;rintro e w5 ⟨rfl,rfl⟩)
  | (go_at_call 221;refine (hIb _).mono ?_;rintro e w6 ⟨rfl,rfl⟩)
  | (go_at_call 147;refine (hIx _ (aA hB hMX.out)).mono ?_;rintro e w7 ⟨rfl,rfl⟩)
  | (go_at_call 222;refine (XA _).mono ?_;rintro e w8 ⟨rfl,hb8⟩;replace hB:=dA hB hb8)
  | (go_at_call 223;refine (hWd _).mono ?_;rintro e w9 ⟨rfl,hb9⟩;replace hB:=dA hB hb9)
  | (go_at_call 224;refine (hSc _).mono ?_;rintro e wa ⟨rfl,hba⟩;replace hB:=dA hB hba)
  | (go_at_call 225;refine (hQs _ (hTT.out.below hB)).mono ?_;rintro e wb ⟨rfl,hbb⟩;replace hB:=dA hB hbb)
  | (go_at_call 226;refine (hSg _).mono ?_;rintro e wc ⟨rfl,rfl⟩))
   go_ret2;exact⟨rfl,hB⟩
 | false =>
 rw [Bc Cu];cases d4:oB r.1 with
 | true =>
  rw [Bb rfl]
  go_in
  exact zaa
 | false =>
 rw [Bc Cu];cases d5:r.1==59 with
 | true =>
  rw [Bb rfl];have hw0:IntKind.i64.wrap ((k:Int)+1)=(k:Int)+1:=IntWalk.i64_in _ Cs
  go_in
  exact zaa
 | false =>
 rw [Bc Cu];cases d6:sc.2.2 != 15 with
 | true =>
  rw [Bb rfl]
  go_in
  exact zaa
 | false =>
 rw [Bc Cu];cases d7:bq.e != 15 with
 | true =>
  rw [Bb rfl]
  go_in
  exact zaa
 | false =>
 rw [Bc Cu];cases d8:decide (0 < sn) with
 | true =>
  rw [Bb rfl];have hw0:IntKind.i64.wrap ((k:Int)+(sn:Int))=(k:Int)+(sn:Int):=IntWalk.i64_in _ Cs
  go_in
  exact zaa
 | false =>
 rw [Bc Cu]
 go_in
 go_wp2_with (first
  | (go_at_call 217;refine hRd.mono ?_;rintro e w1 ⟨rfl,hB⟩)
  | (go_at_call 218;refine (uC _).mono ?_;rintro e w2 ⟨rfl,rfl⟩)
  | (go_at_call 219;refine (hTr _).mono ?_;rintro e w3 ⟨rfl,hb3⟩;replace hB:=dA hB hb3)
  | (go_at_call 220;refine (hP1 _).mono ?_;rintro e w4 ⟨rfl,rfl⟩)
  | (go_at_call 220;refine (hP2 _).mono ?_;rintro e w5 ⟨rfl,rfl⟩)
  | (go_at_call 221;refine (hIb _).mono ?_;rintro e w6 ⟨rfl,rfl⟩)
  | (go_at_call 147;refine (hIx _ (aA hB hMX.out)).mono ?_;rintro e w7 ⟨rfl,rfl⟩)
  | (go_at_call 222;refine (XA _).mono ?_;rintro e w8 ⟨rfl,hb8⟩;replace hB:=dA hB hb8)
  | (go_at_call 223;refine (hWd _).mono ?_;rintro e w9 ⟨rfl,hb9⟩;replace hB:=dA hB hb9)
  | (go_at_call 224;refine (hSc _).mono ?_;rintro e wa ⟨rfl,hba⟩;replace hB:=dA hB hba)
  | (go_at_call 225;refine (hQs _ (hTT.out.below hB)).mono ?_;rintro e wb ⟨rfl,hbb⟩;replace hB:=dA hB hbb)
  | (go_at_call 226;refine (hSg _).mono ?_;rintro e wc ⟨rfl,rfl⟩))
 go_ret2;exact⟨rfl,hB⟩
end
section
open Go.RowKit
def qA (err at':Nat):Value:=.agg #[i8 (err:Int),i8 (at':Int)]
inductive uH where
 | bad (err at':Nat):uH
 | ok (l:List Tk) (pair:List Int):uH
def BF:List Tk->List Value
 | []=>[]
 | t::l=>.int .u8 (t.kind.toNat:Int)::i8 (t.fr:Int)::i8 (t.to:Int)::BF l
def nG (l:List Int):List Value:=l.map fun x=>i8 x
theorem lH:∀ {l:List Tk}{i:Nat}{t:Tk},l[i]?=some t->(BF l)[i*3]?=some (.int .u8 (t.kind.toNat:Int))/\(BF l)[i*3+1]?=some (i8 (t.fr:Int))/\(BF l)[i*3+2]?=some (i8 (t.to:Int))
 | [],i,t,h=>Dd
 | u::l,0,t,h=>by simp at h;subst h;exact⟨rfl,rfl,rfl⟩
 | u::l,i+1,t,h=>by
  have:=lH (l:=l) (i:=i) (t:=t) Dp;have e0:(i+1)*3=i*3+1+1+1:=Cs
  rw [e0];exact this
def xS (r:uH) (w:World) (e:Ending) (w':World):Prop :=
 match r with
 | .bad err a=>e=.returned (.tuple #[.slice none 0 0,.slice none 0 0,qA err a])/\Below w.heap.size w w'
 | .ok l p=>∃ tv pv,e=.returned (.tuple #[tv,pv,qA 0 0])/\w'.ownsRow w.heap.size 56 3 tv l.length (BF l)/\w'.ownsRow w.heap.size 3 1 pv p.length (nG p)/\Below w.heap.size w w'
structure jU (s:List UInt8) (l:List Tk) (pair:List Int):Prop where
 fits:∀ t∈l,t.fr<=t.to/\t.to<=s.length
 small:l.length<=1000000
 same:pair.length=l.length
 within:∀ x∈pair,-1<=x/\x<=1099511627776
structure LJ (N:List UInt8->uH):Prop where
 calls:∀ (s:List UInt8) (w:World),NC w->Calls Tryz.prog 26 #[.string ⟨s.toArray⟩] w (xS (N s) w)
 fit:∀ s l p,N s=.ok l p->jU s l p
 bad:∀ s e a,N s=.bad e a->e≠0
theorem GA {lo sz n cap:Nat}{T:TypeId}{a:Option Addr}{xs:List Value}{w:World} (h:w.ownsRow lo T sz (.slice a n cap) n xs) {j:Nat}{v:Value} (hj:xs[j]?=some v) :
  ∃ b,a=some (y8 b 0)/\lo<=b/\b < w.heap.size/\w.cell? (y8 b j)=some v:=by
 rcases h.2 with ⟨h1,h2⟩|⟨b,cap2,cur,hv,h1,h2,h3⟩
 ·have h0:=h.1;rw [h2] at h0;have hx:xs=[]:=Ac (by simpa using h0);rw [hx] at hj;simp at hj
 ·cases hv;have hl:j < n*sz:=by rw [<- h.1];exact (Al.1 hj).1
  refine⟨b,rfl,h1,?_,?_⟩
  ·exact (Ak.1 h2).1
  ·rw [World.ownsRow.cellAt h j hl,hj]
end
section
open Go.RowKit
theorem pT {l:List UInt8} (h:l≠[]) (ha:(dec l).1 < 128):∃ b r,l=b::r/\(dec l).1=b.toNat:=by
 have h0:(ByteArray.mk l.toArray).size≠0:=Ey
 obtain⟨b,r,rfl⟩:=List.exists_cons_of_ne_nil h;refine⟨b,r,rfl,?_⟩;unfold dec Lib.decodeGo at ha ⊢;rw [Bc h0,Lib.decode_at] at ha ⊢;have hb:((ByteArray.mk (b::r).toArray).get! 0).toNat=b.toNat:=by rw [pJ];rfl
 rw [hb] at ha ⊢;generalize ((ByteArray.mk (b::r).toArray).get! (0+1)).toNat=b1 at *;generalize ((ByteArray.mk (b::r).toArray).get! (0+2)).toNat=b2 at *;generalize ((ByteArray.mk (b::r).toArray).get! (0+3)).toNat=b3 at *;generalize (ByteArray.mk (b::r).toArray).size - 0=n at *;generalize b.toNat=b0 at *;unfold Lib.decodeN at ha ⊢
 repeat' split at ha
 all_goals first
  | (exfalso;simp only at ha;omega)
  | (rename_i hh;rw [Bb hh])
theorem UG (b:Int) (l:List UInt8):Num.dF b l=0∨Num.dF b l=3:=by unfold Num.dF;split <;> simp
theorem eR (l:List UInt8):Num.tO l=0∨Num.tO l=3∨Num.tO l=4:=by
 unfold Num.tO;have:=UG 8 l.tail;unfold Num.WW
 repeat' split
 all_goals first|omega|simp
theorem AR (l:List UInt8):Num.SP l=0∨Num.SP l=3∨Num.SP l=4:=by
 unfold Num.SP Num.zY Num.yW
 repeat' split
 all_goals first|omega|simp
theorem gQ (l:List UInt8):Num.CJ l=0∨Num.CJ l=3∨Num.CJ l=4:=by
 have h1:=fun r=>UG 2 r
 have h2:=fun r=>UG 8 r
 have h3:=AR;have h4:=eR;unfold Num.CJ;split
 ·repeat' split
  ·have:=h1 ‹_›;omega
  ·have:=h2 ‹_›;omega
  ·exact h3 _
  ·exact h4 _
  ·exact h4 _
 ·exact h4 _
theorem nK (l:List UInt8):Num.yE l=0∨Num.yE l=3∨Num.yE l=4∨Num.yE l=5:=by
 have:=gQ l;unfold Num.yE
 repeat' split
 all_goals first|omega|simp
theorem gT:Num.yE []=0:=Ef
theorem mS (c:Nat->Bool):∀ f t,t<=Num.oJ c f t/\Num.oJ c f t<=t+f
 | 0,t=>⟨C' _,C' _⟩
 | f+1,t=>by
  have:=mS c f (t+1);rw [Num.oJ];split <;> omega
def Fits (l:List UInt8) (k:Nat) (r:Int × Int):Prop:=∃ (kd:UInt8) (t:Nat),r.1=(kd.toNat:Int)/\kd≠0/\r.2=(t:Int)/\k < t/\t<=l.length
theorem dT (l:List UInt8) (k:Nat) (hk:k < l.length) (h:(Num.YE l k).1≠0):Fits l k ((Num.YE l k).1,(Num.YE l k).2.1):=by
 unfold Num.YE at h ⊢;by_cases hb:Num.eE l k=true
 ·rw [Bb hb] at h ⊢;simp only [Ai] at h ⊢;generalize Num.bM l k=hx at *;unfold Num.OG at h ⊢;have hr:=mS (Num.mE l hx k) (l.length - k) k;have he:Num.QH l hx k=Num.oJ (Num.mE l hx k) (l.length - k) k:=rfl;rw [<- he] at hr;generalize Num.QH l hx k=en at *;have hK:=nK ((l.drop k).take (en - k));have hn:Num.yE ((l.drop k).take (en - k))≠0->k < en:=fun hne=>by
   apply Classical.byContradiction;intro hle;have:en - k=0:=Cs
   rw [this,List.take_zero] at hne;exact hne gT
  simp only at h ⊢;by_cases hz:Num.yE ((l.drop k).take (en - k))=0
  ·rw [Bc (by simpa using hz)] at h;exact absurd rfl h
  ·rw [Bb hz];have:=hn hz;rcases hK with h0|h3|h4|h5
   ·exact absurd h0 hz
   ·exact⟨3,en,h3,Ct,rfl,this,Cs⟩
   ·exact⟨4,en,h4,Ct,rfl,this,Cs⟩
   ·exact⟨5,en,h5,Ct,rfl,this,Cs⟩
 ·rw [Bc hb] at h;exact absurd rfl h
theorem CN (l:List UInt8) (m:UInt8):∀ (f it:Nat) (q:Qs),q.k<=l.length->q.k<=(jC l m f it q).2.k/\(jC l m f it q).2.k<=l.length
 | 0,_,q,h=>⟨C' _,h⟩
 | f+1,it,q,h=>by
  rw [jC];split
  ·rename_i hk;split
   ·exact zd1
   ·split
    ·exact⟨Nat.le_succ _,hk⟩
    ·split
     ·exact zd1
     ·split
      ·have hf:=qG l m ⟨q.k+1,q.out,q.bad⟩ Kg;have:=CN l m f (it+1) _ hf.2.1;have h1:q.k+1<=_:=hf.1;omega
      ·have hf:=SG l m q hk;have:=CN l m f (it+1) _ hf.1;omega
  ·exact zd1
theorem oL (l:List UInt8) (k:Nat) (hk:k < l.length) (h:(YA l k).k≠0):Fits l k ((YA l k).k,(YA l k).tx):=by
 unfold YA at h ⊢;rw [dif_pos Cs] at h ⊢;simp only [Ai] at h ⊢;by_cases h1:Lib.indexByte ([39,34,96]:List UInt8) l[k] < 0
 ·rw [Bb h1] at h;exact absurd rfl h
 rw [Bc h1] at h ⊢;by_cases h2:l[k]=96
 ·rw [Bb h2] at h ⊢;by_cases h3:Lib.indexByte (l.drop (k+1)) 96 < 0
  ·rw [Bb h3] at h;exact absurd rfl h
  rw [Bc h3];have:=cW (l.drop (k+1)) 96;simp only [Ab] at this;obtain⟨n,hn⟩:=Ad (Int.not_lt.1 h3);rw [hn] at this ⊢;exact⟨7,k+n+2,rfl,Ct,by show (k:Int)+(n:Int)+2=((k+n+2:Nat):Int);omega,Cs,Cs⟩
 rw [Bc h2] at h ⊢;by_cases h3:(jC l l[k] l.length 0 ⟨k+1,[],false⟩).1=true
 ·rw [Bb h3];have:=CN l l[k] l.length 0 ⟨k+1,[],false⟩ En;have h4:k+1<=_:=this.1;by_cases h5:l[k]=34
  ·rw [Bb h5];exact⟨7,_,rfl,Ct,rfl,h4,this.2⟩
  ·rw [Bc h5];exact⟨6,_,rfl,Ct,rfl,h4,this.2⟩
 ·rw [Bc h3] at h;exact absurd rfl h
theorem SH (r:List UInt8):∀ f p,p<=r.length->p<=VA r f p
 | 0,_,h=>h
 | f+1,p,h=>by
  rw [VA];split
  ·split
   ·have hne:r.drop p≠[]:=by intro e;have:=congrArg List.length e;simp only [Ab,Am] at this;omega
    have:=EJ hne;simp only [Ab] at this;have:=SH r f (p+(dec (r.drop p)).2) Cs;omega
   ·exact C' _
  ·exact h
theorem eH {l:List UInt8}{k:Nat} (hk:k < l.length) (h:(vB l k).1≠0):(vB l k).1=((dec (l.drop k)).1:Int)/\(vB l k).2=((dec (l.drop k)).2:Int):=by
 unfold vB at h ⊢;rw [Bc Cs,Ai] at h ⊢;split
 ·rename_i e;rw [Bb e] at h;exact absurd rfl h
 ·exact zbg
theorem qN (l:List UInt8) (k:Nat) (hk:k < l.length) (h:(cB l k).1≠0):Fits l k (cB l k):=by
 have hne:l.drop k≠[]:=Dx
 have hw:=eG hne;have hr2:=oI l k hk;unfold cB at h ⊢;by_cases c0:((vB l k).1==65279)=true
 ·rw [Bb c0] at h ⊢;have e:(vB l k).1=65279:=by simpa using c0
  have:=(eH hk Cs).2;rw [this] at hr2 ⊢;exact⟨10,k+(dec (l.drop k)).2,rfl,Ct,by show (k:Int)+_=_;omega,Cs,Cs⟩
 rw [Bc c0] at h ⊢;by_cases c1:RI (vB l k).1=true
 ·rw [Bb c1] at h ⊢;have hle:=mI (l.drop k) [32,9,13,10];simp only [Ab] at hle;have hc:(vB l k).1=32∨(vB l k).1=9∨(vB l k).1=10∨(vB l k).1=13:=by unfold RI at c1;simp at c1;omega
  have hr:=(eH hk Cs).1;obtain⟨b,r,hb,hd⟩:=pT hne Cs;have hbc:([32,9,13,10]:List UInt8).contains b=true:=by
   have:b=32∨b=9∨b=10∨b=13:=by
    rcases hc with h|h|h|h
    ·left;apply Ay.1;show _=32;omega
    ·right;left;apply Ay.1;show _=9;omega
    ·right;right;left;apply Ay.1;show _=10;omega
    ·right;right;right;apply Ay.1;show _=13;omega
   rcases this with rfl|rfl|rfl|rfl <;> decide
  have hlt:(Lib.trimLeftS (l.drop k) [32,9,13,10]).length < l.length - k:=by
   have e:Lib.trimLeftS (l.drop k) [32,9,13,10]=Lib.trimLeftS r [32,9,13,10]:=by
    unfold Lib.trimLeftS;rw [hb,List.dropWhile_cons,Bb hbc]
   rw [e];have:=mI r [32,9,13,10];have h2:(l.drop k).length=r.length+1:=by rw [hb];rfl
   simp only [Ab] at h2;omega
  exact⟨10,l.length - (Lib.trimLeftS (l.drop k) [32,9,13,10]).length,rfl,Ct,by show (l.length:Int) - _=_;omega,Cs,Cs⟩
 rw [Bc c1] at h ⊢;by_cases c2:Lib.hasPrefix (l.drop k) [47,47]=true
 ·rw [Bb c2] at h ⊢;by_cases c:decide (0<=Lib.indexByte (l.drop k) 10)=true
  ·rw [Bb c];obtain⟨n,hn⟩:=Ad (of_decide_eq_true c);have hs:=Lib.indexByte_some hn;have hlt:=(Al.1 hs.1).1;simp only [Ab] at hlt;have hn0:n≠0:=by
    rintro rfl;obtain⟨t,ht⟩:=List.isPrefixOf_iff_prefix.1 c2;rw [<- ht] at hs;simp at hs
   rw [hn];exact⟨11,k+n,rfl,Ct,by show (k:Int)+(n:Int)=_;omega,Cs,Cs⟩
  ·rw [Bc c];exact⟨11,l.length,rfl,Ct,rfl,hk,C' _⟩
 rw [Bc c2] at h ⊢;by_cases c3:Lib.hasPrefix (l.drop k) [47,42]=true
 ·rw [Bb c3] at h ⊢;by_cases c:decide (0<=Lib.index (l.drop (k+2)) [42,47])=true
  ·rw [Bb c];have:=WJ [42,47] (l.drop (k+2));obtain⟨n,hn⟩:=Ad (of_decide_eq_true c);rw [hn] at this ⊢;simp only [Ab,Ae,Am] at this;exact⟨12,k+n+4,rfl,Ct,by show (k:Int)+(n:Int)+4=_;omega,Cs,Cs⟩
  ·rw [Bc c] at h;exact absurd rfl h
 rw [Bc c3] at h ⊢;by_cases c4:oB (vB l k).1=true
 ·rw [Bb c4] at h ⊢;have hz:oB 0=false:=by decide
  have hr:=(eH hk (fun e=>by rw [e,hz] at c4;cases c4)).1;have hwl:=uL (l.drop k);have hwg:1<=tF (l.drop k):=by
   unfold tF;obtain⟨f,hf⟩:∃ f,(l.drop k).length=f+1:=⟨(l.drop k).length - 1,by simp only [Ab];omega⟩;have hle:=EJ hne;rw [hf,VA,Bb Cs,List.drop_zero,<- hr,c4,Bool.true_or,Bb rfl];have:=SH (l.drop k) f (0+(dec (l.drop k)).2) Cs;omega
  simp only [Ab] at hwl;unfold uI;split
  ·exact⟨2,k+tF (l.drop k),rfl,Ct,rfl,Cs,Cs⟩
  ·exact⟨1,k+tF (l.drop k),rfl,Ct,rfl,Cs,Cs⟩
 rw [Bc c4] at h ⊢;by_cases c5:((vB l k).1==59)=true
 ·rw [Bb c5];exact⟨9,k+1,rfl,Ct,rfl,Cs,hk⟩
 rw [Bc c5] at h ⊢;by_cases c6:((Num.YE l k).2.2 != 15)=true
 ·rw [Bb c6] at h ⊢;exact dT l k hk h
 rw [Bc c6] at h ⊢;by_cases c7:((YA l k).e != 15)=true
 ·rw [Bb c7] at h ⊢;exact oL l k hk h
 rw [Bc c7] at h ⊢;by_cases c8:decide (0 < CG (l.drop k))=true
 ·rw [Bb c8];have h1:0 < CG (l.drop k):=of_decide_eq_true c8;have h2:=LH (l.drop k) (min 3 (l.drop k).length);have h3:CG (l.drop k)=IE (l.drop k) (min 3 (l.drop k).length):=rfl;rw [<- h3] at h2;simp only [Ab] at h2;exact⟨8,k+CG (l.drop k),rfl,Ct,rfl,Cs,Cs⟩
 ·rw [Bc c8] at h;exact absurd rfl h
end
section
open Go.RowKit
variable {w:World}
theorem uA {b:Nat}{x0 x1 x2:Value}{T:TypeId} (h:w.heap[b]?=some (.cells #[x0,x1,x2] T (0,0))):w.cell? (y8 b 0)=some x0/\w.cell? (y8 b 1)=some x1/\w.cell? (y8 b 2)=some x2/\w.frozen? (y8 b 0)=false/\w.frozen? (y8 b 1)=false/\w.frozen? (y8 b 2)=false:=by
 refine⟨?_,?_,?_,?_,?_,?_⟩
 all_goals first
  | (unfold World.cell?;rw [h];rfl)
  | (unfold World.frozen?;rw [h];rfl)
theorem tA {b:Nat}{x0 x1:Value}{T:TypeId} (h:w.heap[b]?=some (.cells #[x0,x1] T (0,0))):w.cell? (y8 b 0)=some x0/\w.cell? (y8 b 1)=some x1/\w.frozen? (y8 b 0)=false/\w.frozen? (y8 b 1)=false:=by
 refine⟨?_,?_,?_,?_⟩
 all_goals first
  | (unfold World.cell?;rw [h];rfl)
  | (unfold World.frozen?;rw [h];rfl)
theorem QM {b:Nat}{x0 x1 x2:Value}{T:TypeId} (h:w.heap[b]?=some (.cells #[x0,x1,x2] T (0,0))) (y0 y1 y2:Value):(((w.setCell (y8 b 0) y0).setCell (y8 b 1) y1).setCell (y8 b 2) y2).heap[b]?=some (.cells #[y0,y1,y2] T (0,0)):=by
 have s1:=heap_setCell_same w b 0 _ _ y0 h;have s2:=heap_setCell_same (w.setCell (y8 b 0) y0) b 1 _ _ y1 s1;have s3:=heap_setCell_same ((w.setCell (y8 b 0) y0).setCell (y8 b 1) y1) b 2 _ _ y2 s2;simpa using s3
theorem VD {b:Nat}{x0 x1:Value}{T:TypeId} (h:w.heap[b]?=some (.cells #[x0,x1] T (0,0))) (y0 y1:Value):((w.setCell (y8 b 0) y0).setCell (y8 b 1) y1).heap[b]?=some (.cells #[y0,y1] T (0,0)):=by
 have s1:=heap_setCell_same w b 0 _ _ y0 h;have s2:=heap_setCell_same (w.setCell (y8 b 0) y0) b 1 _ _ y1 s1;simpa using s2
def WU (l:List UInt8) (k:Nat):Value :=
 if (cB l k).1=0 then .tuple #[.agg #[.int .u8 0,i8 0,i8 0],i8 4]
 else .tuple #[.agg #[.int .u8 (cB l k).1,i8 (k:Int),i8 (cB l k).2],i8 0]
theorem cT (l:List UInt8) (k:Nat) (hs:l.length<=65536) (hk:k < l.length) (hT:NC w):Calls Tryz.prog 146 #[.string ⟨l.toArray⟩,i8 k] w (fun e w'=>e=.returned (WU l k)/\Below w.heap.size w w'):=by
 have hK:=fun (w:World) hT=>zT (w:=w) l k hs hk hT
 have hV:WU l k=if (cB l k).1=0 then .tuple #[.agg #[.int .u8 0,i8 0,i8 0],i8 4] else .tuple #[.agg #[.int .u8 (cB l k).1,i8 (k:Int),i8 (cB l k).2],i8 0]:=rfl
 rw [hV];clear hV;generalize cB l k=r at *;have HT:=hid hT;clear hT;have hB0:=(N' w.heap.size w).alloc (C' _) (Obj.cells #[.int .u8 0,i8 0,i8 0] 56);have hB1:=hB0.alloc Cu (Obj.cells #[.int .u8 0,i8 (k:Int),i8 0] 56);have h0:=(((N' (w.alloc (Obj.cells #[.int .u8 0,i8 0,i8 0] 56)).heap.size _).alloc (C' _) (Obj.cells #[.int .u8 0,i8 (k:Int),i8 0] 56)).block w.heap.size Cu).trans (B8 w _);have h1:=B8 (w.alloc (Obj.cells #[.int .u8 0,i8 0,i8 0] 56)) (Obj.cells #[.int .u8 0,i8 (k:Int),i8 0] 56);have hsz:((w.alloc (Obj.cells #[.int .u8 0,i8 0,i8 0] 56)).alloc (Obj.cells #[.int .u8 0,i8 (k:Int),i8 0] 56)).heap.size=w.heap.size+1+1:=Cu
 have hs1:(w.alloc (Obj.cells #[.int .u8 0,i8 0,i8 0] 56)).heap.size=w.heap.size+1:=Cu
 rw [hs1] at h1;by_cases hr:r.1=0
 ·rw [Bb hr];have d0:(r.1==0)=true:=by simpa using hr
  clear hr
  go_in
  go_wp2_with fail;generalize ((w.alloc (Obj.cells #[.int .u8 0,i8 0,i8 0] 56)).alloc (Obj.cells #[.int .u8 0,i8 (k:Int),i8 0] 56))=W0 at *;refine (hK W0 (HT.out.below hB1)).mono ?_;rintro e w1 ⟨rfl,hb⟩;have k0:=(hb.block w.heap.size Cs).trans h0;have k1:=(hb.block (w.heap.size+1) Cs).trans h1;have HB:=hid (hB1.trans (hb.mono Cs));have hlt1:=lt_of_block k1;have hns:w.heap.size≠w.heap.size+1:=Cs
  have s1:=heap_setCell_same w1 (w.heap.size+1) 0 _ _ (.int .u8 r.1) k1;have s2:=heap_setCell_same (w1.setCell (y8 (w.heap.size+1) 0) (.int .u8 r.1)) (w.heap.size+1) 2 _ _ (i8 r.2) s1;simp only [Q',Z',Aa] at s1 s2;have t1:=(Ah w1 (y8 (w.heap.size+1) 0) (.int .u8 r.1) w.heap.size Cu).trans k0;have t2:=(Ah (w1.setCell (y8 (w.heap.size+1) 0) (.int .u8 r.1)) (y8 (w.heap.size+1) 2) (i8 r.2) w.heap.size Cu).trans t1;obtain⟨a0,a1,a2,a3,a4,a5⟩:=uA k1;obtain⟨b0,b1,b2,b3,b4,b5⟩:=uA s1;obtain⟨e0,e1,e2,e3,e4,e5⟩:=uA s2;obtain⟨g0,g1,g2,g3,g4,g5⟩:=uA t2;have HB2:=hid ((HB.out.setCell (p:=(y8 (w.heap.size+1) 0)) Cu (.int .u8 r.1)).setCell (p:=(y8 (w.heap.size+1) 2)) Cu (i8 r.2));clear k0 k1 s1 s2 t1 hb h0 h1 hB0 hB1 HT hK;go_wp2_with fail;have u3:=QM t2 (.int .u8 0) (i8 0) (i8 0);have HB3:=hid (((HB2.out.setCell (p:=(y8 w.heap.size 0)) (C' _) (.int .u8 0)).setCell (p:=(y8 w.heap.size 1)) (C' _) (i8 0)).setCell (p:=(y8 w.heap.size 2)) (C' _) (i8 0));obtain⟨q0,q1,q2,_⟩:=uA u3;generalize (((((w1.setCell (y8 (w.heap.size+1) 0) (.int .u8 r.1)).setCell (y8 (w.heap.size+1) 2) (i8 r.2)).setCell (y8 w.heap.size 0) (.int .u8 0)).setCell (y8 w.heap.size 1) (i8 0)).setCell (y8 w.heap.size 2) (i8 0))=w3 at *;refine Ca (v:=.tuple #[.agg #[.int .u8 0,i8 0,i8 0],i8 4]) ?_ rfl ⟨rfl,HB3.out⟩;simp [results,Tryz.results146,go_sem,q0,q1,q2]
 ·rw [Bc hr];have d0:(r.1==0)=false:=by simpa using hr
  clear hr
  go_in
  go_wp2_with fail;generalize ((w.alloc (Obj.cells #[.int .u8 0,i8 0,i8 0] 56)).alloc (Obj.cells #[.int .u8 0,i8 (k:Int),i8 0] 56))=W0 at *;refine (hK W0 (HT.out.below hB1)).mono ?_;rintro e w1 ⟨rfl,hb⟩;have k0:=(hb.block w.heap.size Cs).trans h0;have k1:=(hb.block (w.heap.size+1) Cs).trans h1;have HB:=hid (hB1.trans (hb.mono Cs));have hlt1:=lt_of_block k1;have hns:w.heap.size≠w.heap.size+1:=Cs
  have s1:=heap_setCell_same w1 (w.heap.size+1) 0 _ _ (.int .u8 r.1) k1;have s2:=heap_setCell_same (w1.setCell (y8 (w.heap.size+1) 0) (.int .u8 r.1)) (w.heap.size+1) 2 _ _ (i8 r.2) s1;simp only [Q',Z',Aa] at s1 s2;have t1:=(Ah w1 (y8 (w.heap.size+1) 0) (.int .u8 r.1) w.heap.size Cu).trans k0;have t2:=(Ah (w1.setCell (y8 (w.heap.size+1) 0) (.int .u8 r.1)) (y8 (w.heap.size+1) 2) (i8 r.2) w.heap.size Cu).trans t1;obtain⟨a0,a1,a2,a3,a4,a5⟩:=uA k1;obtain⟨b0,b1,b2,b3,b4,b5⟩:=uA s1;obtain⟨e0,e1,e2,e3,e4,e5⟩:=uA s2;obtain⟨g0,g1,g2,g3,g4,g5⟩:=uA t2;have HB2:=hid ((HB.out.setCell (p:=(y8 (w.heap.size+1) 0)) Cu (.int .u8 r.1)).setCell (p:=(y8 (w.heap.size+1) 2)) Cu (i8 r.2));clear k0 k1 s1 s2 t1 hb h0 h1 hB0 hB1 HT hK;go_wp2_with fail;have u3:=QM t2 (.int .u8 r.1) (i8 (k:Int)) (i8 r.2);have HB3:=hid (((HB2.out.setCell (p:=(y8 w.heap.size 0)) (C' _) (.int .u8 r.1)).setCell (p:=(y8 w.heap.size 1)) (C' _) (i8 (k:Int))).setCell (p:=(y8 w.heap.size 2)) (C' _) (i8 r.2));obtain⟨q0,q1,q2,_⟩:=uA u3;generalize (((((w1.setCell (y8 (w.heap.size+1) 0) (.int .u8 r.1)).setCell (y8 (w.heap.size+1) 2) (i8 r.2)).setCell (y8 w.heap.size 0) (.int .u8 r.1)).setCell (y8 w.heap.size 1) (i8 (k:Int))).setCell (y8 w.heap.size 2) (i8 r.2))=w3 at *;refine Ca (v:=.tuple #[.agg #[.int .u8 r.1,i8 (k:Int),i8 r.2],i8 0]) ?_ rfl ⟨rfl,HB3.out⟩;simp [results,Tryz.results146,go_sem,q0,q1,q2]
theorem jE {base base2 n S:Nat}{E:TypeId}{v:Value}{xs:List Value} (h:w.ownsRow base E S v n xs) (hb:base2<=base):w.ownsRow base2 E S v n xs:=by
 obtain⟨h1,h2⟩:=h;refine⟨h1,?_⟩;rcases h2 with h2|⟨g,cap,cur,e1,e2,e3⟩
 ·exact .inl h2
 ·exact .inr ⟨g,cap,cur,e1,Cs,e3⟩
inductive ZT where
 | bad (err a:Nat):ZT
 | ok (l:List Tk):ZT
def TI (r:ZT) (w:World) (e:Ending) (w':World):Prop :=
 match r with
 | .bad err a=>e=.returned (.tuple #[.slice none 0 0,qA err a])/\Below w.heap.size w w'
 | .ok l=>∃ tv,e=.returned (.tuple #[tv,qA 0 0])/\w'.ownsRow w.heap.size 56 3 tv l.length (BF l)/\Below w.heap.size w w'
def xH (l:List UInt8) (k:Nat):Tk:=⟨(cB l k).1.toNat.toUInt8,k,(cB l k).2.toNat⟩
def VG (l:List UInt8):Nat->Nat->List Tk->ZT
 | 0,_,acc=>.ok acc
 | f+1,k,acc=>if k < l.length then (if (cB l k).1=0 then .bad 4 k else VG l f (xH l k).to (acc++[xH l k])) else .ok acc
def cK (l:List UInt8):ZT:=if 65536 < l.length then .bad 2 0 else if 0<=tG l then .bad 3 (tG l).toNat else VG l l.length 0 []
theorem RV {l:List UInt8}{f k:Nat}{acc:List Tk} (h:¬ k < l.length):VG l f k acc=.ok acc:=by
 cases f with
 | zero=>rfl
 | succ f=>rw [VG,Bc h]
theorem fM {l:List UInt8}{k:Nat} (hk:k < l.length) (h:(cB l k).1≠0):(cB l k).1=((xH l k).kind.toNat:Int)/\(cB l k).2=((xH l k).to:Int)/\k < (xH l k).to/\(xH l k).to<=l.length:=by
 obtain⟨kd,t,h1,h2,h3,h4,h5⟩:=qN l k hk h;have e1:(xH l k).kind=kd:=by
  show (cB l k).1.toNat.toUInt8=kd
  rw [h1];simp
 have e2:(xH l k).to=t:=by
  show (cB l k).2.toNat=t
  rw [h3];simp
 rw [e1,e2];exact⟨h1,h3,h4,h5⟩
theorem GH:∀ a b:List Tk,BF (a++b)=BF a++BF b
 | [],_=>rfl
 | t::a,b=>by simp [BF,GH a b]
theorem QN (l:List UInt8):tG l < l.length:=by
 have hf:∀ (T:List UInt8) f p,eB T f p < T.length∨eB T f p=-1:=by
  intro T f
  induction f with
  | zero=>intro p;exact .inr rfl
  | succ f ih =>
   intro p;rw [eB];split
   ·split
    ·left;omega
    ·exact ih _
   ·exact .inr rfl
 have hb:BK l<=l.length:=by
  unfold BK;rcases SL l with h|⟨j,h,hj⟩
  ·rw [h];simp
  ·rw [h,Bc Cs,Ai];omega
 unfold tG;split
 ·rcases hf (l.take (BK l)) (BK l) 0 with h|h
  ·simp only [List.length_take] at h;omega
  ·omega
 ·split
  ·omega
  ·omega
theorem Tryz.infoTok:(Tryz.prog.info? 56).map (fun i=>(i.zero,i.size,i.bytes))=some (some (.agg #[.int .u8 0,i8 0,i8 0]),3,24):=Cw
theorem Tryz.underToks:Tryz.prog.underlying 34=some (.slice 56):=Cw
theorem pV (l:List UInt8) (hT:NC w):Calls Tryz.prog 103 #[.string ⟨l.toArray⟩] w (TI (cK l) w):=by
 have h0:=B8 w (Obj.cells #[i8 0,i8 0] 28);have hB0:=(N' w.heap.size w).alloc (C' _) (Obj.cells #[i8 0,i8 0] 28);have HT:=hid hT;clear hT;by_cases hlen:65536 < l.length
 ·have hR:cK l=.bad 2 0:=by unfold cK;rw [Bb hlen]
  rw [hR];have d0:decide ((65536:Int) < (l.length:Int))=true:=Cv
  clear hR hlen HT
  go_in
  go_upto_region 1 with fail;generalize w.alloc (Obj.cells #[i8 0,i8 0] 28)=w1 at *;obtain⟨c0,c1,f0,f1⟩:=tA h0;go_wp2_with fail;have u9:=VD h0 (i8 2) (i8 0);have HB9:=hid ((hB0.setCell (p:=(y8 w.heap.size 0)) (C' _) (i8 2)).setCell (p:=(y8 w.heap.size 1)) (C' _) (i8 0));obtain⟨q0,q1,_⟩:=tA u9;generalize ((w1).setCell (y8 w.heap.size 0) (i8 2)).setCell (y8 w.heap.size 1) (i8 0)=w9 at *;refine Ca (v:=.tuple #[.slice none 0 0,qA 2 0]) ?_ rfl ⟨rfl,HB9.out⟩;exact zct
 have hlen2:l.length<=65536:=Cs
 have d0:decide ((65536:Int) < (l.length:Int))=false:=Cv
 have hR:cK l=if 0<=tG l then .bad 3 (tG l).toNat else VG l l.length 0 []:=by unfold cK;rw [Bc hlen]
 rw [hR];clear hR hlen;have hC:=fun (w:World) hT=>MR (w:=w) l hlen2 hT
 generalize tG l=cl at *;by_cases hcl:0<=cl
 ·rw [Bb hcl];obtain⟨j,rfl⟩:=Ad hcl;rw [Ai];clear hcl
  go_in
  go_upto_region 1 with fail;have hlt0:=lt_of_block h0;generalize w.alloc (Obj.cells #[i8 0,i8 0] 28)=w1 at *;go_wp2_with (go_at_call 145;refine (hC w1 (HT.out.below hB0)).mono ?_;rintro e w2 ⟨rfl,hb2⟩;have h2:=(hb2.block _ hlt0).trans h0;have hB2:=hid (dA hB0 hb2);obtain⟨c0,c1,f0,f1⟩:=tA h2;clear hb2);have u9:=VD h2 (i8 3) (i8 (j:Int));have HB9:=hid ((hB2.out.setCell (p:=(y8 w.heap.size 0)) (C' _) (i8 3)).setCell (p:=(y8 w.heap.size 1)) (C' _) (i8 (j:Int)));obtain⟨q0,q1,_⟩:=tA u9;generalize ((w2).setCell (y8 w.heap.size 0) (i8 3)).setCell (y8 w.heap.size 1) (i8 (j:Int))=w9 at *;refine Ca (v:=.tuple #[.slice none 0 0,qA 3 j]) ?_ rfl ⟨rfl,HB9.out⟩;exact zct
 rw [Bc hcl];have d1:decide (0<=cl)=false:=by simpa using hcl
 clear hcl;obtain⟨R,hRR⟩:∃ R,R=VG l l.length 0 []:=⟨_,rfl⟩;rw [<- hRR];have HRR:=hid hRR;clear hRR;obtain⟨iT,hiT,hz0,hz1,hz2⟩:=info_parts Tryz.infoTok
 go_in
 go_upto_region 1 with fail;have hlt0:=lt_of_block h0;generalize w.alloc (Obj.cells #[i8 0,i8 0] 28)=w1 at *;go_wp2_with (go_at_call 145;refine (hC w1 (HT.out.below hB0)).mono ?_;rintro e w2 ⟨rfl,hb2⟩;have h2:=(hb2.block _ hlt0).trans h0;have hB2:=dA hB0 hb2;clear hb2)
 go_loopg [5,6] l.length (fun j v5 v6 wr=>∃ (k:Nat) (acc:List Tk),v6=i8 (k:Int)/\wr.ownsRow (w.heap.size+1) 56 3 v5 acc.length (BF acc)/\wr.heap[w.heap.size]?=some (.cells #[i8 0,i8 0] 28 (0,0))/\Below w.heap.size w wr/\VG l j k acc=R/\l.length<=k+j/\k<=l.length/\acc.length<=k)
 case atStart=>exact⟨0,[],rfl,⟨rfl,.inl ⟨rfl,rfl⟩⟩,h2,hB2,HRR.out.symm,Cs,Nat.zero_le _,C' _⟩
 case round =>
  obtain⟨k,acc,rfl,hown,hF,hB,hL,hj,hk,ha⟩:=hrel;obtain⟨va,vn,vc,rfl⟩:=ND hown;by_cases hkl:k < l.length
  ·have d2:decide ((k:Int) < (l.length:Int))=true:=by simpa using hkl
   have hN:=cT (w:=wr) l k hlen2 hkl (HT.out.below hB);unfold WU at hN;have hst:∃ j',gk=j'+1:=⟨gk - 1,Cs⟩;by_cases hz:(cB l k).1=0
   ·rw [Bb hz] at hN;have hLR:R=.bad 4 k:=by
     exact zej
    have HLR:=hid hLR;have hltF:=lt_of_block hF;clear hL hj hst hz hLR hown h0 h2 hB0 hB2;go_wp2_with (go_at_call 146;refine hN.mono ?_;rintro e w3 ⟨rfl,hb3⟩;have h3:=(hb3.block _ hltF).trans hF;have hB3:=dA hB hb3;clear hb3;have h4:=(Af w3 (Obj.cells #[.int .u8 0,i8 0,i8 0] 56) w.heap.size (lt_of_block h3)).trans h3;have hB4:=hid (hB3.alloc hB3.size (Obj.cells #[.int .u8 0,i8 0,i8 0] 56));obtain⟨c0,c1,f0,f1⟩:=tA h4);rw [HLR.out];have u9:=VD h4 (i8 4) (i8 (k:Int));have HB9:=hid ((hB4.out.setCell (p:=(y8 w.heap.size 0)) (C' _) (i8 4)).setCell (p:=(y8 w.heap.size 1)) (C' _) (i8 (k:Int)));obtain⟨q0,q1,_⟩:=tA u9;generalize ((w3.alloc (Obj.cells #[.int .u8 0,i8 0,i8 0] 56)).setCell (y8 w.heap.size 0) (i8 4)).setCell (y8 w.heap.size 1) (i8 (k:Int))=w9 at *;refine Ca (v:=.tuple #[.slice none 0 0,qA 4 k]) ?_ rfl ⟨rfl,HB9.out⟩;exact zct
   ·rw [Bc hz] at hN;obtain⟨e1,e2,e3,e4⟩:=fM hkl hz;have hLR:VG l (gk - 1) (xH l k).to (acc++[xH l k])=R:=by
     exact zed
    rw [e1,e2] at hN;have htf:(xH l k).fr=k:=rfl;generalize xH l k=t at *;have HLR:=hid hLR;have hltF:=lt_of_block hF;have hown2:=hid hown;clear hL hst hz hLR h0 h2 hB0 hB2 e1 e2 hown;go_wp2_with (first|(go_at_call 146;refine hN.mono ?_;rintro e w3 ⟨rfl,hb3⟩;have h3:=(hb3.block _ hltF).trans hF;have hB3:=dA hB hb3;have hown3:=LD hown2.out hb3;have hsz3:=hb3.size;have hp3:=hB3.size;clear hb3;have h4:=B8 w3 (Obj.cells #[.int .u8 (t.kind.toNat:Int),i8 (k:Int),i8 (t.to:Int)] 56);obtain⟨c0,c1,c2,f0,f1,f2⟩:=uA h4)|(at_builtin;refine wpList_append_lies _ rfl _ _ 34 rfl (w.heap.size+1) 56 iT _ 3 24 Tryz.underToks hiT hz0 hz1 hz2 rfl Ct (.slice va vn vc) acc.length (BF acc) rfl ((hown3.alloc _).alloc _) ⟨w3.heap.size+1,0,none⟩ 1 1 [.int .u8 (t.kind.toNat:Int),i8 (k:Int),i8 (t.to:Int)] rfl rfl (At (by have:=B8 (w3.alloc (Obj.cells #[.int .u8 (t.kind.toNat:Int),i8 (k:Int),i8 (t.to:Int)] 56)) (Obj.cells #[.int .u8 (t.kind.toNat:Int),i8 (k:Int),i8 (t.to:Int)] 56);simpa using this)) Dq Ct Da Cs Cv _ rfl ?_;intro g cap w6 hown6 hgrow6 hat6 hlt6;have hb5:=((N' w3.heap.size w3).alloc (C' _) (Obj.cells #[.int .u8 (t.kind.toNat:Int),i8 (k:Int),i8 (t.to:Int)] 56)).alloc Cu (Obj.cells #[.int .u8 (t.kind.toNat:Int),i8 (k:Int),i8 (t.to:Int)] 56);have hF6:=(hgrow6.block w.heap.size Cv (fun h=>Jq)).trans ((hb5.block _ Cs).trans h3);have k5:=(Af (w3.alloc (Obj.cells #[.int .u8 (t.kind.toNat:Int),i8 (k:Int),i8 (t.to:Int)] 56)) (Obj.cells #[.int .u8 (t.kind.toNat:Int),i8 (k:Int),i8 (t.to:Int)] 56) w3.heap.size Cu).trans h4;have k6:=(hgrow6.block w3.heap.size Cv (fun h=>by have:=(hown3.lt _ h.symm).2;omega)).trans k5;obtain⟨m0,m1,m2,_⟩:=uA k6));exact za6
  ·rw [RV hkl] at hL;have d2:decide ((k:Int) < (l.length:Int))=false:=by simpa using hkl
   have HL:=hid (Az hL (Az hown hB));obtain⟨c0,c1,f0,f1⟩:=tA hF;clear hL hown h0 h2 hB0 hB2 hj;go_wp2_with fail;rw [<- HL.out.1];have u9:=VD hF (i8 0) (i8 0);have HB9:=hid ((HL.out.2.2.setCell (p:=(y8 w.heap.size 0)) (C' _) (i8 0)).setCell (p:=(y8 w.heap.size 1)) (C' _) (i8 0));have HO9:=hid (rA (rA HL.out.2.1 (y8 w.heap.size 0) Cu (i8 0)) (y8 w.heap.size 1) Cu (i8 0));obtain⟨q0,q1,_⟩:=tA u9;generalize (wr.setCell (y8 w.heap.size 0) (i8 0)).setCell (y8 w.heap.size 1) (i8 0)=w9 at *;refine Ca (v:=.tuple #[.slice va vn vc,qA 0 0]) ?_ rfl ⟨.slice va vn vc,rfl,jE HO9.out Cs,HB9.out⟩;exact zct
end
section
open Go.RowKit
variable {w:World}
def vP (k:UInt8) (t:List UInt8):Bool :=
 if k=1∨k=3∨k=4∨k=5∨k=6∨k=7 then true
 else if k=2 then (t==[98,114,101,97,107]||t==[99,111,110,116,105,110,117,101]||t==[102,97,108,108,116,104,114,111,117,103,104]||t==[114,101,116,117,114,110])
 else if k=8 then (t==[43,43]||t==[45,45]||t==[41]||t==[93]||t==[125])
 else false
theorem lT (k:UInt8) (t:List UInt8):Calls Tryz.prog 107 #[.int .u8 (k.toNat:Int),.string ⟨t.toArray⟩] w (fun e w'=>e=.returned (.bool (vP k t))/\w'=w):=by
 have hE:vP k t=if k=1∨k=3∨k=4∨k=5∨k=6∨k=7 then true else if k=2 then (t==[98,114,101,97,107]||t==[99,111,110,116,105,110,117,101]||t==[102,97,108,108,116,104,114,111,117,103,104]||t==[114,101,116,117,114,110]) else if k=8 then (t==[43,43]||t==[45,45]||t==[41]||t==[93]||t==[125]) else false:=rfl
 rw [hE];clear hE;by_cases h1:k=1∨k=3∨k=4∨k=5∨k=6∨k=7
 ·rw [Bb h1];rcases h1 with rfl|rfl|rfl|rfl|rfl|rfl
  all_goals
   go_in
   go_wp2_with fail;go_ret;exact⟨rfl,rfl⟩
 rw [Bc h1];by_cases h2:k=2
 ·subst h2;rw [Bb rfl];clear h1;cases e1:(t==[98,114,101,97,107]) <;> cases e2:(t==[99,111,110,116,105,110,117,101]) <;> cases e3:(t==[102,97,108,108,116,104,114,111,117,103,104]) <;> cases e4:(t==[114,101,116,117,114,110])
  all_goals
   go_in
   go_wp2_with fail;go_ret;exact⟨rfl,rfl⟩
 rw [Bc h2];by_cases h3:k=8
 ·subst h3;rw [Bb rfl];clear h1 h2;cases e1:(t==[43,43])
  ·cases e2:(t==[45,45])
   ·cases e3:(t==[41])
    ·cases e4:(t==[93])
     ·cases e5:(t==[125])
      all_goals
       go_in
       go_wp2_with fail;go_ret;exact⟨rfl,rfl⟩
     ·go_in
      exact zaq
    ·go_in
     exact zaq
   ·go_in
    exact zaq
  ·go_in
   exact zaq
 rw [Bc h3];have hne:∀ (y:UInt8),¬ k=y->((k.toNat:Int)==(y.toNat:Int))=false:=fun y h=>by
  exact zcs
 have d1:((k.toNat:Int)==1)=false:=hne 1 (fun e=>h1 (.inl e));have d3:((k.toNat:Int)==3)=false:=hne 3 (fun e=>h1 (.inr (.inl e)));have d4:((k.toNat:Int)==4)=false:=hne 4 (fun e=>h1 (.inr (.inr (.inl e))));have d5:((k.toNat:Int)==5)=false:=hne 5 (fun e=>h1 (.inr (.inr (.inr (.inl e)))));have d6:((k.toNat:Int)==6)=false:=hne 6 (fun e=>h1 (.inr (.inr (.inr (.inr (.inl e))))));have d7:((k.toNat:Int)==7)=false:=hne 7 (fun e=>h1 (.inr (.inr (.inr (.inr (.inr e))))));have d2:((k.toNat:Int)==2)=false:=hne 2 h2;have d8:((k.toNat:Int)==8)=false:=hne 8 h3;clear h1 h2 h3 hne
 go_in
 exact zaq
def kJ (k:UInt8):Bool:=decide (k=10)||decide (k=11)||decide (k=12)
theorem TO (k:UInt8) (a b:Int):Calls Tryz.prog 104 #[.agg #[.int .u8 (k.toNat:Int),i8 a,i8 b]] w (fun e w'=>e=.returned (.bool (kJ k))/\Below w.heap.size w w'):=by
 have hB:=(N' w.heap.size w).alloc (C' _) (Obj.cells #[.int .u8 (k.toNat:Int),i8 a,i8 b] 56);have h0:=B8 w (Obj.cells #[.int .u8 (k.toNat:Int),i8 a,i8 b] 56);obtain⟨c0,c1,c2,_⟩:=uA h0;unfold kJ;rw [zF,zF,zF]
 show Calls _ _ _ _ (fun e w'=>e=.returned (.bool (((k.toNat:Int)==10)||((k.toNat:Int)==11)||((k.toNat:Int)==12)))/\Below w.heap.size w w')
 cases d1:((k.toNat:Int)==10) <;> cases d2:((k.toNat:Int)==11) <;> cases d3:((k.toNat:Int)==12)
 all_goals
  go_in
  go_wp2_with fail;go_ret;exact⟨rfl,hB⟩
end
