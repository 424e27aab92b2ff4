import Derived.Test.YtiifmpgpfijdgaaGreatDoorQAU
namespace Go.Proofs.YtiifmpgpfijdgaaGreatDoor
set_option linter.all false
set_option maxHeartbeats 40000000
set_option maxRecDepth 100000
section
variable {l l':List UInt8}{o k:Nat}
theorem signFrom_spec (T:List UInt8):∀ N m,signFrom T N=m→(∀ n,m < n→n≤N→signs.contains (T.take n)=false)∧(0 < m→signs.contains (T.take m)=true)∧m≤N
 | 0,m,h=>by rw [signFrom] at h;subst h;exact⟨fun n h1 h2=>by omega,fun h=>absurd h (Nat.lt_irrefl _),Nat.le_refl _⟩
 | N+1,m,h=>by
  rw [signFrom] at h
  split at h
  ·rename_i c
   subst h
   exact⟨fun n h1 h2=>by omega,fun _=>c,Nat.le_refl _⟩
  ·rename_i c
   obtain⟨h1,h2,h3⟩:=signFrom_spec T N m h
   refine⟨fun n a b=>?_,h2,by omega⟩
   rcases Nat.eq_or_lt_of_le b with e|e
   ·rw [e];simpa using c
   ·exact h1 n a (by omega)
theorem signFrom_of (T:List UInt8):∀ N m,(∀ n,m < n→n≤N→signs.contains (T.take n)=false)→(0 < m→signs.contains (T.take m)=true)→m≤N→signFrom T N=m
 | 0,m,_,_,h=>by rw [signFrom];omega
 | N+1,m,h1,h2,h3=>by
  rw [signFrom]
  rcases Nat.eq_or_lt_of_le h3 with e|e
  ·subst e;rw [if_pos (h2 (Nat.succ_pos _))]
  ·rw [if_neg (by rw [h1 (N+1) e (Nat.le_refl _)];decide)]
   exact signFrom_of T N m (fun n a b=>h1 n a (by omega)) h2 (by omega)
theorem signs_no:∀ s∈signs,(32:UInt8) ∉ s∧(10:UInt8) ∉ s:=by decide
theorem signs_first:∀ s∈signs,s≠[]∧s.length≤3∧(s.headD 0).toNat < 128∧10≤Num.val ((s.headD 0).toNat:Int)∧([39,34,96]:List UInt8).contains (s.headD 0)=false:=by decide +kernel
theorem sign_no {T:List UInt8} (h:(32:UInt8)∈T∨(10:UInt8)∈T):signs.contains T=false:=by
 cases hc:signs.contains T with
 | false=>rfl
 | true =>
  have hm:T∈signs:=by simpa using hc
  have:=signs_no T hm
  rcases h with h|h
  ·exact absurd h this.1
  ·exact absurd h this.2
theorem sign_move {w r r':List UInt8} (hs:Stp r r') (hw:0 < w.length) (h:signN (w++r)=w.length):signN (w++r')=w.length:=by
 unfold signN at h ⊢
 obtain⟨h1,h2,h3⟩:=signFrom_spec _ _ _ h
 have hc:=h2 hw
 rw [List.take_left] at hc
 have hl3:=(signs_first w (by simpa using hc)).2.1
 refine signFrom_of _ _ _ (fun n a b=>?_) (fun _=>by rw [List.take_left];exact hc) (by rw [List.length_append];omega)
 rw [List.length_append] at b
 have key:∀ (x:List UInt8) (y:UInt8) (u:List UInt8),w++r'=x++y::u→x.length < n→y∈(w++r').take n:=fun x y u e hx=>by
  rw [e,List.take_append]
  obtain⟨d,hd⟩:∃ d,n - x.length=d+1:=⟨n - x.length - 1,by omega⟩
  rw [hd,List.take_succ_cons]
  simp
 rcases hs with e|⟨z,e⟩|⟨z,e⟩|⟨e,⟨q,e2,hq⟩,_⟩
 ·rw [e] at b;simp at b;omega
 ·exact sign_no (.inl (key w 32 z (by rw [e]) a))
 ·exact sign_no (.inr (key w 10 z (by rw [e]) a))
 ·by_cases hn:n≤w.length+r.length
  ·have e3:(w++r').take n=(w++r).take n:=by
    rw [e2,← List.append_assoc,List.take_append_of_le_length (by rw [List.length_append];exact hn)]
   rw [e3]
   exact h1 n a (by rw [List.length_append];omega)
  ·rcases hq with rfl|⟨x,rfl⟩
   ·rw [List.append_nil] at e2;rw [e2] at b;omega
   ·exact sign_no (.inr (key (w++r) 10 x (by rw [e2,List.append_assoc]) (by rw [List.length_append];omega)))
theorem scan_ok {l:List UInt8}{k:Int} (h:(Num.scanA l k).1≠0):(Num.scanA l k).2.2=0∧Num.beginsL l k=true:=by
 unfold Num.scanA at h ⊢
 split
 ·rename_i c
  rw [if_pos c] at h
  unfold Num.scanR at h ⊢
  simp only at h ⊢
  split
  ·exact⟨rfl,c⟩
  ·rename_i c2;rw [if_neg c2] at h;exact absurd rfl h
 ·rename_i c;rw [if_neg c] at h;exact absurd rfl h
theorem scan_not {l:List UInt8}{k:Int}:(Num.scanA l k).2.2=15↔Num.beginsL l k=false:=by
 unfold Num.scanA
 split
 ·rename_i c
  unfold Num.scanR
  simp only
  split
  ·simp [c]
  ·simp [c]
 ·rename_i c;simp at c;simp [c]
theorem begins_byte {l:List UInt8}{k:Nat} (h:Num.beginsL l k=true):(l[k]?.getD 0).toNat < 128:=by
 unfold Num.beginsL Num.bat at h
 simp only [Int.toNat_natCast,Bool.and_eq_true,Bool.or_eq_true,decide_eq_true_eq] at h
 rcases h.2 with h|⟨⟨h,_⟩,_⟩
 ·unfold Num.val at h
  split at h
  ·omega
  ·split at h
   ·omega
   ·split at h <;> omega
 ·omega
theorem quote_byte {l:List UInt8}{k:Nat} (hk:k < l.length) (h:(beginQ l k).e≠15):([39,34,96]:List UInt8).contains (l[k]?.getD 0)=true:=by
 rw [List.getElem?_eq_getElem hk,Option.getD_some]
 unfold beginQ at h
 rw [dif_pos (by omega)] at h
 simp only [Int.toNat_natCast] at h
 by_cases c:Lib.indexByte ([39,34,96]:List UInt8) l[k] < 0
 ·rw [if_pos c] at h;exact absurd rfl h
 ·obtain⟨n,hn⟩:=Int.eq_ofNat_of_zero_le (Int.not_lt.1 c)
  have:=(Lib.indexByte_some hn).1
  have hm:=List.mem_of_getElem? this
  simpa using hm
theorem pre_move {w r r':List UInt8} (hs:Stp r r') (hw:w≠[]) {x y:UInt8} (hy:y≠32∧y≠10) (h:Lib.hasPrefix (w++r') [x,y]=true):Lib.hasPrefix (w++r) [x,y]=true:=by
 rcases w with _|⟨u,_|⟨v,t⟩⟩
 ·exact absurd rfl hw
 ·cases hr:r' with
  | nil=>rw [hr] at h;simp [Lib.hasPrefix] at h
  | cons z t =>
   rw [hr] at h
   simp only [List.cons_append,List.nil_append,Lib.hasPrefix,List.isPrefixOf,Bool.and_true,Bool.and_eq_true,beq_iff_eq] at h
   obtain⟨h1,h2⟩:=h
   subst h2
   obtain⟨x',hx'⟩:=hs.next hy hr
   rw [hx']
   simp [Lib.hasPrefix,List.isPrefixOf,h1]
 ·simpa [Lib.hasPrefix,List.isPrefixOf] using h
theorem silent_of {kd:UInt8} (h:kd=10∨kd=11∨kd=12):silentB kd=true:=by rcases h with rfl|rfl|rfl <;> rfl
theorem kind_move {w r r':List UInt8}{kd:UInt8} (hT:l.drop k=w++r) (hT':l'.drop o=w++r') (hk:k < l.length) (ho:o < l'.length) (hs:Stp r r')
  (hK:kindK l k=((kd.toNat:Int),((k+w.length:Nat):Int))) (h0:kd≠0) (hq:silentB kd=false):kindK l' o=((kd.toNat:Int),((o+w.length:Nat):Int)):=by
 have hz:∀ n:Int,(kd.toNat:Int)=n→n=0∨n=10∨n=11∨n=12→False:=fun n h1 h2=>by
  have e:kd.toNat=0∨kd.toNat=10∨kd.toNat=11∨kd.toNat=12:=by omega
  rcases e with e|e|e|e
  ·exact h0 (UInt8.toNat_inj.1 e)
  ·rw [silent_of (.inl (UInt8.toNat_inj.1 e))] at hq;cases hq
  ·rw [silent_of (.inr (.inl (UInt8.toNat_inj.1 e)))] at hq;cases hq
  ·rw [silent_of (.inr (.inr (UInt8.toNat_inj.1 e)))] at hq;cases hq
 have hkd:(kindK l k).1≠0:=by rw [hK];exact fun e=>hz _ e (.inl rfl)
 obtain⟨_,tt,_,_,f3,f4,f5⟩:=kindK_fit l k hk hkd
 rw [hK] at f3
 have hwl:0 < w.length:=by simp only at f3;omega
 have hwne:w≠[]:=List.length_pos_iff.1 hwl
 have hA:=Ag.of hT hT' (by omega) (by omega)
 have hne:l.drop k≠[]:=by rw [hT];simp [hwne]
 have hg0:l[k]?=some (w.headD 0):=by
  have:(l.drop k)[0]?=some (w.headD 0):=by rw [hT];cases w with|nil=>exact absurd rfl hwne|cons x t=>rfl
  rw [List.getElem?_drop] at this;exact this
 have hd:∃ t,l.drop k=w.headD 0::t:=by rw [hT];cases w with|nil=>exact absurd rfl hwne|cons x t=>exact⟨_,rfl⟩
 have hd':∃ t,l'.drop o=w.headD 0::t:=by rw [hT'];cases w with|nil=>exact absurd rfl hwne|cons x t=>exact⟨_,rfl⟩
 obtain⟨t1,hd⟩:=hd
 obtain⟨t2,hd'⟩:=hd'
 have hasc:(w.headD 0).toNat < 128→readR l' (o:Int)=readR l (k:Int):=fun h=>by rw [readR_one hd hk h,readR_one hd' ho h]
 unfold kindK at hK
 by_cases c0:((readR l k).1==65279)=true
 ·rw [if_pos c0] at hK;exact (hz 10 (congrArg Prod.fst hK).symm (.inr (.inl rfl))).elim
 rw [if_neg c0] at hK
 by_cases c1:blankB (readR l k).1=true
 ·rw [if_pos c1] at hK;exact (hz 10 (congrArg Prod.fst hK).symm (.inr (.inl rfl))).elim
 rw [if_neg c1] at hK
 by_cases c2:Lib.hasPrefix (l.drop k) [47,47]=true
 ·rw [if_pos c2] at hK
  have:(kd.toNat:Int)=11:=by
   split at hK
   ·exact (congrArg Prod.fst hK).symm
   ·exact (congrArg Prod.fst hK).symm
  exact (hz 11 this (.inr (.inr (.inl rfl)))).elim
 rw [if_neg c2] at hK
 by_cases c3:Lib.hasPrefix (l.drop k) [47,42]=true
 ·rw [if_pos c3] at hK
  split at hK
  ·exact (hz 12 (congrArg Prod.fst hK).symm (.inr (.inr (.inr rfl)))).elim
  ·exact (hz 0 (congrArg Prod.fst hK).symm (.inl rfl)).elim
 rw [if_neg c3] at hK
 have c2':¬ Lib.hasPrefix (l'.drop o) [47,47]=true:=fun h=>c2 (by rw [hT];rw [hT'] at h;exact pre_move hs hwne (by decide) h)
 have c3':¬ Lib.hasPrefix (l'.drop o) [47,42]=true:=fun h=>c3 (by rw [hT];rw [hT'] at h;exact pre_move hs hwne (by decide) h)
 by_cases c4:letterB (readR l k).1=true
 ·rw [if_pos c4] at hK
  have hw:wordN (l.drop k)=w.length:=by have:=congrArg Prod.snd hK;simp only at this;omega
  have hzr:letterB 0=false:=by decide
  have hr:=(readR_some hk (fun e=>by rw [e,hzr] at c4;cases c4)).1
  have hwid:(dec (l.drop k)).2≤w.length:=by
   rw [← hw]
   unfold wordN
   obtain⟨f,hf⟩:∃ f,(l.drop k).length=f+1:=⟨(l.drop k).length - 1,by simp only [List.length_drop];omega⟩
   have hle:=dec_wid' hne
   rw [hf,wordFrom,if_pos (by omega),List.drop_zero,← hr,c4,Bool.true_or,if_pos rfl]
   have:=wordFrom_ge (l.drop k) f (0+(dec (l.drop k)).2) (by omega)
   omega
  have hv:(dec (l.drop k)).1≠65533:=fun e=>by
   rw [hr,e] at c4
   exact absurd c4 (by rw [show ((65533:Nat):Int)=65533 from rfl,letterE];decide)
  have hR:readR l' (o:Int)=readR l (k:Int):=by
   have:=ag_readR hA (i:=k) (Nat.le_refl _) (by omega) (by omega) (.inl hv)
   rwa [Nat.sub_self,Nat.zero_add] at this
  have hw':wordN (l'.drop o)=w.length:=by rw [hT'];rw [hT] at hw;exact wordN_move hs hw
  unfold kindK
  rw [hR,if_neg c0,if_neg c1,if_neg c2',if_neg c3',if_pos c4,hw']
  have hk2:wordK l' o=wordK l k:=by unfold wordK;rw [hw,hw',hT,hT',List.take_left,List.take_left]
  rw [hk2]
  have:=congrArg Prod.fst hK
  simp only at this
  rw [this]
 rw [if_neg c4] at hK
 by_cases c5:((readR l k).1==59)=true
 ·rw [if_pos c5] at hK
  have e:(readR l k).1=59:=by simpa using c5
  have hr:=(readR_some hk (by omega)).1
  obtain⟨b,t,hb,hdb⟩:=dec_ascii hne (by omega)
  have hbw:w.headD 0=b:=by rw [hb] at hd;cases hd;rfl
  have hR:=hasc (by rw [hbw];omega)
  unfold kindK
  rw [hR,if_neg c0,if_neg c1,if_neg c2',if_neg c3',if_neg c4,if_pos c5]
  have e1:=congrArg Prod.fst hK
  have e2:=congrArg Prod.snd hK
  simp only at e1 e2
  rw [← e1]
  congr 1
  omega
 rw [if_neg c5] at hK
 by_cases c6:((Num.scanA l k).2.2 != 15)=true
 ·rw [if_pos c6] at hK
  have e1:=congrArg Prod.fst hK
  have e2:=congrArg Prod.snd hK
  simp only at e1 e2
  have hs0:=scan_ok (l:=l) (k:=k) (by rw [e1];exact fun e=>hz _ e (.inl rfl))
  have hb:=begins_byte hs0.2
  rw [hg0] at hb
  have hR:=hasc hb
  have hM:=scan_move hT hT' hk ho hs (K:=(kd.toNat:Int)) (fun e=>hz _ e (.inl rfl)) (by rw [← e1,← e2,← hs0.1])
  unfold kindK
  rw [hR,if_neg c0,if_neg c1,if_neg c2',if_neg c3',if_neg c4,if_neg c5,hM,if_pos (show ((0:Int) != 15)=true by decide)]
 rw [if_neg c6] at hK
 by_cases c7:((beginQ l k).e != 15)=true
 ·rw [if_pos c7] at hK
  have e1:=congrArg Prod.fst hK
  have e2:=congrArg Prod.snd hK
  simp only at e1 e2
  have hb:=quote_byte hk (by simpa using c7)
  rw [hg0,Option.getD_some] at hb
  have hcs:∀ b:UInt8,([39,34,96]:List UInt8).contains b=true→b.toNat < 128∧10≤Num.val (b.toNat:Int)∧b.toNat≠46:=by
   intro b hb
   have hb:b=39∨b=34∨b=96:=by simpa using hb
   rcases hb with rfl|rfl|rfl <;> decide +kernel
  obtain⟨h1,h2,h3⟩:=hcs _ hb
  have hR:=hasc h1
  obtain⟨m1,m2,m3⟩:=ag_begin hA hk (by rw [e1];exact fun e=>hz _ e (.inl rfl)) e2
  have hsn:=scan_none hd' h2 h3
  unfold kindK
  rw [hR,if_neg c0,if_neg c1,if_neg c2',if_neg c3',if_neg c4,if_neg c5,hsn,if_neg (by decide),m2,if_pos c7,m1,m3,e1]
  congr 2
  omega
 rw [if_neg c7] at hK
 by_cases c8:decide (0 < signN (l.drop k))=true
 ·rw [if_pos c8] at hK
  have e1:=congrArg Prod.fst hK
  have e2:=congrArg Prod.snd hK
  simp only at e1 e2
  have hsg:signN (l.drop k)=w.length:=by omega
  have hsg1:=hsg
  rw [hT] at hsg1
  have hsg':signN (l'.drop o)=w.length:=by rw [hT'];exact sign_move hs hwl hsg1
  have hmem:w∈signs:=by
   unfold signN at hsg1
   have:=(signFrom_spec _ _ _ hsg1).2.1 hwl
   rw [List.take_left] at this
   simpa using this
  obtain⟨_,_,h1,h2,h3⟩:=signs_first w hmem
  have hR:=hasc h1
  have hq':(beginQ l' o).e=15:=by
   rcases Decidable.em ((beginQ l' o).e=15) with e|e
   ·exact e
   ·have:=quote_byte ho e
    have hg':l'[o]?=some (w.headD 0):=by
     have:(l'.drop o)[0]?=some (w.headD 0):=by rw [hd'];rfl
     rw [List.getElem?_drop] at this
     exact this
    rw [hg',Option.getD_some,h3] at this
    cases this
  have hn':(Num.scanA l' o).2.2=15:=by
   rw [scan_not]
   have hn:Num.beginsL l k=false:=scan_not.1 (by simpa using c6)
   cases hb:Num.beginsL l' o with
   | false=>rfl
   | true =>
    exfalso
    unfold Num.beginsL Num.bat at hb hn
    have hg':l'[o]?=some (w.headD 0):=by
     have:(l'.drop o)[0]?=some (w.headD 0):=by rw [hd'];rfl
     rw [List.getElem?_drop] at this;exact this
    simp only [Int.toNat_natCast,hg',hg0,Option.getD_some,Bool.and_eq_true,Bool.or_eq_true,decide_eq_true_eq] at hb hn
    rcases hb.2 with h|⟨⟨h4,h5⟩,h6⟩
    ·omega
    ·have h6:Num.val ((l'[o+1]?.getD 0).toNat:Int) < 10:=h6
     obtain⟨y,hy⟩:∃ y,l'[o+1]?=some y:=⟨_,List.getElem?_eq_getElem (by omega)⟩
     rw [hy,Option.getD_some] at h6
     have hyn:y≠32∧y≠10:=by
      constructor
      ·rintro rfl;exact absurd h6 (by decide +kernel)
      ·rintro rfl;exact absurd h6 (by decide +kernel)
     have hy2:l[k+1]?=some y:=by
      have g:(w++r')[1]?=some y:=by rw [← hT',List.getElem?_drop];exact hy
      have g2:(w++r)[1]?=some y:=by
       rcases w with _|⟨u,_|⟨v,t⟩⟩
       ·exact absurd rfl hwne
       ·cases hr:r' with
        | nil=>rw [hr] at g;simp at g
        | cons z t =>
         rw [hr] at g
         obtain rfl:z=y:=by simpa using g
         obtain⟨x',hx'⟩:=hs.next hyn hr
         rw [hx'];rfl
       ·simpa using g
      rw [← hT,List.getElem?_drop] at g2
      exact g2
     have hlt:=(List.getElem?_eq_some_iff.1 hy2).1
     have:(decide (0≤(k:Int)∧(k:Int) < (l.length:Int))&&(decide (Num.val ((w.headD 0).toNat:Int) < 10)||(decide (((w.headD 0).toNat:Int)=46)&&decide ((k:Int)+1 < (l.length:Int))&&decide (Num.val ((l[k+1]?.getD 0).toNat:Int) < 10))))=false:=hn
     rw [hy2,Option.getD_some,decide_eq_true h6,decide_eq_true h4,decide_eq_true (show (k:Int)+1 < (l.length:Int) by omega),decide_eq_true (show 0≤(k:Int)∧(k:Int) < (l.length:Int) by omega)] at this
     simp at this
  unfold kindK
  rw [hR,if_neg c0,if_neg c1,if_neg c2',if_neg c3',if_neg c4,if_neg c5,hn',if_neg (by decide),hq',if_neg (by decide),hsg',if_pos (decide_eq_true hwl),e1]
  congr 1
 ·rw [if_neg c8] at hK;exact (hz 0 (congrArg Prod.fst hK).symm (.inl rfl)).elim
end
section
variable {s:List UInt8}
def Vd (d:Nat × Nat):Prop:=d.1≠65533∨2≤d.2
theorem decN_facts {n b0 b1 b2 b3:Nat} (hr:Vd (Lib.decodeN n b0 b1 b2 b3)):(b0 < 128∨192≤b0)∧(b0 < 128→(Lib.decodeN n b0 b1 b2 b3).2=1)∧(1 < (Lib.decodeN n b0 b1 b2 b3).2→1 < n∧b1 / 64=2)∧(2 < (Lib.decodeN n b0 b1 b2 b3).2→2 < n∧b2 / 64=2)∧(3 < (Lib.decodeN n b0 b1 b2 b3).2→3 < n∧b3 / 64=2)∧(Lib.decodeN n b0 b1 b2 b3).2≤4:=by
 unfold Vd Lib.decodeN at hr
 unfold Lib.decodeN
 by_cases a0:b0 < 128
 ·rw [if_pos a0]
  exact⟨.inl a0,fun _=>rfl,fun h=>absurd h (by simp),fun h=>absurd h (by simp),fun h=>absurd h (by simp),by simp⟩
 rw [if_neg a0] at hr ⊢
 by_cases a1:b0 / 32=6∧(1 < n∧b1 / 64=2)
 ·rw [if_pos a1] at hr ⊢
  split
  ·exact⟨.inr (by omega),fun h=>absurd h a0,fun _=>a1.2,fun h=>absurd h (by simp),fun h=>absurd h (by simp),by simp⟩
  ·rename_i v;rw [if_neg v] at hr;simp at hr
 rw [if_neg a1] at hr ⊢
 by_cases a2:b0 / 16=14∧(1 < n∧b1 / 64=2)∧(2 < n∧b2 / 64=2)
 ·rw [if_pos a2] at hr ⊢
  split
  ·exact⟨.inr (by omega),fun h=>absurd h a0,fun _=>a2.2.1,fun _=>a2.2.2,fun h=>absurd h (by simp),by simp⟩
  ·rename_i v;rw [if_neg v] at hr;simp at hr
 rw [if_neg a2] at hr ⊢
 by_cases a3:b0 / 8=30∧(1 < n∧b1 / 64=2)∧(2 < n∧b2 / 64=2)∧(3 < n∧b3 / 64=2)
 ·rw [if_pos a3] at hr ⊢
  split
  ·exact⟨.inr (by omega),fun h=>absurd h a0,fun _=>a3.2.1,fun _=>a3.2.2.1,fun _=>a3.2.2.2,by simp⟩
  ·rename_i v;rw [if_neg v] at hr;simp at hr
 rw [if_neg a3] at hr
 simp at hr
theorem dec_facts {x:List UInt8} (hx:x≠[]) (hr:Vd (dec x)):((x[0]?.getD 0).toNat < 128∨192≤(x[0]?.getD 0).toNat)∧((x[0]?.getD 0).toNat < 128→(dec x).2=1)∧∀ j,0 < j→j < (dec x).2→(x[j]?.getD 0).toNat / 64=2:=by
 have hl:x.length≠0:=fun e=>hx (List.eq_nil_of_length_eq_zero e)
 have hs:(ByteArray.mk x.toArray).size≠0:=by simp [ByteArray.size];exact hx
 have e:dec x=Lib.decodeN x.length (x[0]?.getD 0).toNat (x[1]?.getD 0).toNat (x[2]?.getD 0).toNat (x[3]?.getD 0).toNat:=by
  unfold dec Lib.decodeGo
  rw [if_neg hs,Lib.decode_at]
  simp only [get_bang,ByteArray.size,List.size_toArray,Nat.sub_zero,Nat.zero_add]
 rw [e] at hr ⊢
 obtain⟨h1,h2,h3,h4,h5,h6⟩:=decN_facts hr
 refine⟨h1,h2,fun j j0 jw=>?_⟩
 have hj:j=1∨j=2∨j=3:=by omega
 rcases hj with rfl|rfl|rfl
 ·exact (h3 jw).2
 ·exact (h4 jw).2
 ·exact (h5 jw).2
inductive Bd (s:List UInt8):Nat→Prop where
 | zero:Bd s 0
 | step (p:Nat):Bd s p→p < s.length→Bd s (p+(dec (s.drop p)).2)
theorem ne_drop {p:Nat} (h:p < s.length):s.drop p≠[]:=by intro e;have:=congrArg List.length e;simp only [List.length_drop,List.length_nil] at this;omega
theorem bd_or:∀ p,p≤s.length→Bd s p∨∃ q,Bd s q∧q < p∧p < q+(dec (s.drop q)).2
 | 0,_=>.inl .zero
 | p+1,h=>by
  rcases bd_or p (by omega) with hb|⟨q,hb,h1,h2⟩
  ·have hp:=dec_pos (ne_drop (s:=s) (p:=p) (by omega))
   rcases Nat.eq_or_lt_of_le (show 1≤(dec (s.drop p)).2 from hp) with e|e
   ·have:=Bd.step p hb (by omega)
    rw [← e] at this
    exact .inl this
   ·exact .inr ⟨p,hb,Nat.lt_succ_self p,by omega⟩
  ·rcases Nat.eq_or_lt_of_le (show p+1≤q+(dec (s.drop q)).2 from h2) with e|e
   ·rw [e];exact .inl (Bd.step q hb (by omega))
   ·exact .inr ⟨q,hb,by omega,e⟩
def Snd (s:List UInt8):Prop:=∀ q,Bd s q→q < s.length→Vd (dec (s.drop q))∧(dec (s.drop q)).1≠0∧((dec (s.drop q)).1=65279→q=0)
theorem bd_lead (h:Snd s) {p:Nat} (hp:p < s.length) (hb:(s[p]?.getD 0).toNat / 64≠2):Bd s p:=by
 rcases bd_or (s:=s) p (by omega) with h1|⟨q,h1,h2,h3⟩
 ·exact h1
 ·have hv:=(h q h1 (by omega)).1
  have:=(dec_facts (ne_drop (by omega)) hv).2.2 (p - q) (by omega) (by omega)
  rw [List.getElem?_drop,show q+(p - q)=p by omega] at this
  exact absurd this hb
theorem bd_end (h:Snd s):Bd s s.length:=by
 rcases bd_or s.length (Nat.le_refl _) with h1|⟨q,h1,h2,h3⟩
 ·exact h1
 ·have:=dec_wid' (ne_drop h2)
  rw [List.length_drop] at this
  omega
theorem bd_ascii (h:Snd s) {p:Nat} (hp:p < s.length) (hb:(s[p]?.getD 0).toNat < 128):Bd s (p+1):=by
 have h1:=bd_lead h hp (by omega)
 have hv:=(h p h1 hp).1
 have h2:=(dec_facts (ne_drop hp) hv).2.1 (by rw [List.getElem?_drop];exact hb)
 have:=Bd.step p h1 hp
 rwa [h2] at this
theorem bd_valid (h:Snd s) {p:Nat} (hp:p < s.length) (hv:Vd (dec (s.drop p))):Bd s p:=by
 have:=(dec_facts (ne_drop hp) hv).1
 rw [List.getElem?_drop,Nat.add_zero] at this
 exact bd_lead h hp (by omega)
theorem bd_mono:∀ {p:Nat},Bd s p→∀ {q:Nat},Bd s q→q < p→q+(dec (s.drop q)).2≤p:=by
 intro p
 induction p using Nat.strongRecOn with
 | ind p ih =>
  intro hp q hq h
  cases hp with
  | zero=>omega
  | step u hu hul =>
   rcases Nat.lt_trichotomy q u with h1|h1|h1
   ·have:=ih u (by have:=dec_pos (ne_drop hul);omega) hu hq h1
    omega
   ·rw [h1];exact Nat.le_refl _
   ·have:=ih q h hq hu h1
    omega
inductive Cl:List UInt8→Prop where
 | nil:Cl []
 | cons (x:List UInt8):x≠[]→Vd (dec x)→(dec x).1≠0→(dec x).1≠65279→Cl (x.drop (dec x).2)→Cl x
theorem Cl.append {x y:List UInt8} (hx:Cl x) (hy:Cl y):Cl (x++y):=by
 induction hx with
 | nil=>exact hy
 | cons x h1 h2 h3 h4 _ ih =>
  have e:=dec_ext y h1 h2
  refine .cons _ (by simp [h1]) (by rw [e];exact h2) (by rw [e];exact h3) (by rw [e];exact h4) ?_
  rw [e,List.drop_append_of_le_length (dec_wid' h1)]
  exact ih
theorem cl_byte {b:UInt8} (h:b.toNat < 128) (h0:b≠0):Cl [b]:=by
 have e:=dec_one (r:=[]) h
 refine .cons _ (by simp) (by rw [e];left;show b.toNat≠65533;omega) (by rw [e];exact fun h=>h0 (UInt8.toNat_inj.1 h)) (by rw [e];show b.toNat≠65279;omega) ?_
 rw [e];exact .nil
theorem cl_piece (h:Snd s) {b:Nat} (hb:Bd s b) (hbl:b≤s.length):∀ (n a:Nat),b - a≤n→Bd s a→a≤b→(a=0→a < b→(dec s).1≠65279)→Cl ((s.take b).drop a)
 | n,a,hn,ha,hab,h0=>by
  rcases Nat.eq_or_lt_of_le hab with e|e
  ·rw [e,List.drop_eq_nil_of_le (by rw [List.length_take];omega)];exact .nil
  cases n with
  | zero=>omega
  | succ n =>
   obtain⟨v1,v2,v3⟩:=h a ha (by omega)
   have hm:=bd_mono hb ha e
   have hne:=ne_drop (s:=s) (p:=a) (by omega)
   have hp:=dec_pos hne
   have ed:dec ((s.take b).drop a)=dec (s.drop a):=by
    rw [List.drop_take]
    exact dec_local hne (by omega) (by rw [List.length_drop];omega) v1
   refine .cons _ (by intro e2;have:=congrArg List.length e2;simp only [List.length_drop,List.length_take,List.length_nil] at this;omega) (by rw [ed];exact v1) (by rw [ed];exact v2) ?_ ?_
   ·rw [ed]
    intro e3
    have:=v3 e3
    subst this
    rw [List.drop_zero] at e3
    exact h0 rfl e e3
   ·rw [ed,List.drop_drop]
    exact cl_piece h hb hbl n _ (by omega) (.step a ha (by omega)) hm (fun e=>by omega)
theorem cl_from (t:List UInt8):∀ (f p:Nat),Cl (t.drop p)→badFrom t f p=-1∧cleanFrom t f p=-1
 | 0,p,_=>⟨rfl,rfl⟩
 | f+1,p,h=>by
  rw [badFrom,cleanFrom]
  by_cases hp:p < t.length
  ·rw [if_pos hp,if_pos hp]
   generalize hx:t.drop p=x at h
   cases h with
   | nil=>exact absurd hx (ne_drop hp)
   | cons _ h1 h2 h3 h4 h5 =>
    subst hx
    have hR:readR t (p:Int)=(((dec (t.drop p)).1:Int),((dec (t.drop p)).2:Int)):=by
     unfold readR
     rw [if_neg (by omega),Int.toNat_natCast,if_neg (fun e=>by rcases h2 with h|h;exact h e.1;omega)]
    have hp2:=dec_pos h1
    rw [if_neg (fun e=>by have:=e.2;rw [hR] at this;simp only at this;omega),if_neg (fun e=>by rcases e with e|e;exact h3 e;exact h4 e.1)]
    rw [List.drop_drop] at h5
    exact cl_from t f _ h5
  ·rw [if_neg hp,if_neg hp];exact⟨rfl,rfl⟩
theorem cl_clean {t:List UInt8} (h:Cl t):cleanR t=-1:=by
 obtain⟨h1,h2⟩:=cl_from t t.length 0 (by rw [List.drop_zero];exact h)
 have hb:badN t=t.length:=by unfold badN badR;rw [h1];rfl
 unfold cleanR
 rw [hb,List.take_length,h2,if_neg (by decide),if_neg (by omega)]
theorem snd_of (h:¬ 0≤cleanR s):Snd s:=by
 have hb:badN s=s.length∧badR s=-1:=by
  unfold cleanR at h
  have hN:¬ badN s < s.length:=fun c=>by
   rw [if_pos c] at h
   split at h
   ·rename_i c2;exact h c2
   ·omega
  rcases badR_range s with e|⟨j,e,hj⟩
  ·exact⟨by unfold badN;rw [e];rfl,e⟩
  ·exfalso;apply hN;unfold badN;rw [e,if_neg (by omega),Int.toNat_natCast];exact hj
 have hc:cleanFrom s s.length 0=-1:=by
  unfold cleanR at h
  rw [hb.1,List.take_length] at h
  have hf:∀ f p,cleanFrom s f p=-1∨0≤cleanFrom s f p:=by
   intro f
   induction f with
   | zero=>intro p;exact .inl rfl
   | succ f ih =>
    intro p
    rw [cleanFrom]
    split
    ·split
     ·right;omega
     ·exact ih _
    ·exact .inl rfl
  rcases hf s.length 0 with e|e
  ·exact e
  ·rw [if_pos e] at h;exact absurd e h
 have key:∀ q,Bd s q→∃ f,s.length≤q+f∧badFrom s f q=-1∧cleanFrom s f q=-1:=by
  intro q hq
  induction hq with
  | zero=>exact⟨s.length,by omega,hb.2,hc⟩
  | step p hp hl ih =>
   obtain⟨f,h1,h2,h3⟩:=ih
   have hpos:=dec_pos (ne_drop hl)
   cases f with
   | zero=>omega
   | succ f =>
    rw [badFrom,if_pos hl] at h2
    rw [cleanFrom,if_pos hl] at h3
    refine⟨f,by omega,?_,?_⟩
    ·split at h2
     ·omega
     ·exact h2
    ·split at h3
     ·omega
     ·exact h3
 intro q hq hl
 obtain⟨f,h1,h2,h3⟩:=key q hq
 have hpos:=dec_pos (ne_drop hl)
 cases f with
 | zero=>omega
 | succ f =>
  rw [badFrom,if_pos hl] at h2
  rw [cleanFrom,if_pos hl] at h3
  have g2:¬ ((dec (s.drop q)).1=65533∧(readR s q).2=0):=fun c=>by rw [if_pos c] at h2;omega
  have g3:¬ ((dec (s.drop q)).1=0∨(dec (s.drop q)).1=65279∧0 < q):=fun c=>by rw [if_pos c] at h3;omega
  refine⟨?_,fun e=>g3 (.inl e),fun e=>?_⟩
  ·rcases Decidable.em (2≤(dec (s.drop q)).2) with e|e
   ·exact .inr e
   ·left
    intro e2
    apply g2
    refine⟨e2,?_⟩
    unfold readR
    rw [if_neg (by omega),Int.toNat_natCast,if_pos ⟨e2,by omega⟩]
  ·rcases Nat.eq_zero_or_pos q with e2|e2
   ·exact e2
   ·exact absurd (.inr ⟨e,e2⟩) g3
end
end Go.Proofs.YtiifmpgpfijdgaaGreatDoor
