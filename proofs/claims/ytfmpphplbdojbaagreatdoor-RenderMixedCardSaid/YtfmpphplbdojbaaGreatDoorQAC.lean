import Derived.Test.YtfmpphplbdojbaaGreatDoorQAB
namespace Go.Proofs.YtfmpphplbdojbaaGreatDoor
set_option linter.all false
set_option maxHeartbeats 40000000
set_option maxRecDepth 100000
section
theorem bQ (E:Env) (S:AB) (k:Nat) (h:vG E S k):vG E (step E S) (k+1):=by
 refine⟨fun f n g hp hk=>?_,fun a m b s o acc word n g hn hk=>OR h a m b s o acc word n g hn hk⟩;obtain⟨ho,hp⟩:=hp
 show xA E.l.length (low f n) (DF E S f n g)
 cases f with
 | one o =>
  cases o with
  | expr=>exact h.t .expr n g (DA rfl hp) Cw
  | typ=>exact h.t .typ n g (DA rfl hp) Cw
  | call=>exact xA.bad
  | _ =>
   simp only [rk] at hk;simp only [NF,if_true,if_false,Bool.false_eq_true] at hp;simp only [low,iQ,if_true,if_false,Bool.false_eq_true];simp only [DF,EF,lB,fnB,NB,CE,uB,LB,IB,XD,XC,RD,OD,XB,jB,NJ,CB,nC,WE,kG,ZB,cC,SJ,bG,sE,UE,OB,QC,QE,EE,lC,aD,oC,UD,rD,mB,PE,dD,cD,dC,eC,tI,NE,rC,PC,FE,DC,WF,ZC,XI,fG,xE,mC,nH,PB,leaf,only,SD,kD,oA,mA,PA,zA]
   repeat' first|exact xA.bad|(refine xA.ok ?_ ?_ <;> omega)|rw [mA]|rw [PA]|exact (gI _).low (Cf)|exact (TE _).low (Cf)|(refine xA.ite (fun hc=>?_) (fun hc=>?_) <;> first|(have hx:=gA hc)|(have hx:=vL hc)|(have hx:=EL hc)|(have hx:=zL hc)|(have hx:=vO hc)|(have hx:=lO hc)|(have hx:=OJ hc)|(have hx:=cH hc)|(have hx:=YG hc)|skip)|(refine xA.andThen (aF _ _ _) (fun _ m h1 h2=>?_))|(refine jI (fun _ hc=>?_);have hx:=dG hc)|(refine xA.andThen (TE _) (fun _ m h1 h2=>?_))|(refine xA.andThen (YI Cf) (fun _ m h1 h2=>?_))|(refine xA.andThen (eI h _ _ _ _ _ _ _ _ _ Cf) (fun _ m h1 h2=>?_))|(refine xA.andThen (h.t _ _ _ Cy C6) (fun _ m h1 h2=>?_);(first|replace h1:=UC rfl h1|replace h1:=aJ h1))|(refine xA.low (h.t _ _ _ Cy C6) ?_;first|exact UF (Cf)|(rw [bI rfl];omega))|(split <;> first|(rename_i hc;have hx:=gA hc)|skip)
 | exprs =>
  refine xA.andThen (h.t .expr n g (DA rfl hp) Cw) (fun x m h1 h2=>?_);have h1:=UC rfl h1;exact (h.t (.exprsMore [x]) m g (DA rfl h2) Cw).low (UF h1)
 | types =>
  refine xA.andThen (h.t .typ n g (DA rfl hp) Cw) (fun x m h1 h2=>?_);have h1:=UC rfl h1;exact (h.t (.typesMore [x]) m g (DA rfl h2) Cw).low (UF h1)
 | expr=>exact h.t (.binary 1) n g (DA rfl hp) Cw
 | binary least =>
  refine xA.andThen (h.t .unary n g (DA rfl hp) Cw) (fun x m h1 h2=>?_);have h1:=UC rfl h1;exact (h.t (.binMore least n x) m g (DA rfl h2 ho) Cw).low (UF h1)
 | binMore least fr x=>exact oO h n least fr x g (of_decide_eq_true ho) hp hk
 | primary =>
  refine xA.andThen (h.t .operand n g (DA rfl hp) Cw) (fun x m h1 h2=>?_);have h1:=UC rfl h1;exact (h.t (.primMore n x) m g (DA rfl h2) Cw).low (UF h1)
 | indexMore fr x acc=>exact gL h n fr x acc g hp hk
 | stmts=>exact h.t (.stmtsMore []) n false (DA rfl hp) Cw
 | simple =>
  refine xA.andThen (h.t .exprs n g (DA rfl hp) Cw) (fun x m h1 h2=>?_);have h1:=UC rfl h1;exact (h.t (.rest n x) m g (DA rfl h2) Cw).low (UF h1)
 | switches=>exact BM h n g hp hk
 | _ =>
   simp only [rk] at hk;simp only [NF,if_true,if_false,Bool.false_eq_true] at hp;simp only [low,iQ,if_true,if_false,Bool.false_eq_true];simp only [DF,EF,lB,fnB,NB,CE,uB,LB,IB,XD,XC,RD,OD,XB,jB,NJ,CB,nC,WE,kG,ZB,cC,SJ,bG,sE,UE,OB,QC,QE,EE,lC,aD,oC,UD,rD,mB,PE,dD,cD,dC,eC,tI,NE,rC,PC,FE,DC,WF,ZC,XI,fG,xE,mC,nH,PB,leaf,only,SD,kD,oA,mA,PA,zA]
   repeat' first|exact xA.bad|(refine xA.ok ?_ ?_ <;> omega)|rw [mA]|rw [PA]|exact (gI _).low (Cf)|exact (TE _).low (Cf)|(refine xA.ite (fun hc=>?_) (fun hc=>?_) <;> first|(have hx:=gA hc)|(have hx:=vL hc)|(have hx:=EL hc)|(have hx:=zL hc)|(have hx:=vO hc)|(have hx:=lO hc)|(have hx:=OJ hc)|(have hx:=cH hc)|(have hx:=YG hc)|skip)|(refine xA.andThen (aF _ _ _) (fun _ m h1 h2=>?_))|(refine jI (fun _ hc=>?_);have hx:=dG hc)|(refine xA.andThen (TE _) (fun _ m h1 h2=>?_))|(refine xA.andThen (YI Cf) (fun _ m h1 h2=>?_))|(refine xA.andThen (eI h _ _ _ _ _ _ _ _ _ Cf) (fun _ m h1 h2=>?_))|(refine xA.andThen (h.t _ _ _ Cy C6) (fun _ m h1 h2=>?_);(first|replace h1:=UC rfl h1|replace h1:=aJ h1))|(refine xA.low (h.t _ _ _ Cy C6) ?_;first|exact UF (Cf)|(rw [bI rfl];omega))|(split <;> first|(rename_i hc;have hx:=gA hc)|skip)
theorem NV (E:Env):∀ k,vG E (kA E k) k
 | 0=>⟨fun _ _ _ _ h=>Cf,fun _ _ _ _ _ _ _ _ _ _ h=>Cf⟩
 | k+1=>bQ E (kA E k) k (NV E k)
theorem ends (E:Env) (f:F) (hf:pre E f 0) (g:Bool):(kA E (20*E.l.length+20)).t f 0 g≠.out :=
 ((NV E (20*E.l.length+20)).t f 0 g hf (by have:rk f<=12:=by { cases f <;> exact Nat.le_of_ble_eq_true rfl };omega)).1
end
