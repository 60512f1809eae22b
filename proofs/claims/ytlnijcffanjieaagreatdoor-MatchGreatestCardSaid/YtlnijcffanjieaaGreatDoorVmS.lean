/- Seat 7: how many parts; small cores are taken. Conditions: none but those that each theorem names. -/
import Derived.Test.YtlnijcffanjieaaGreatDoorVmK
namespace Go.Proofs.YtlnijcffanjieaaGreatDoor
open Go Go.Vm Go.Vm.Sx
mutual
def nodes:E->Nat
 | .mk _ _ _ _ _ _ _ _ _ _ args=>1+nodesF args
def nodesF:List E->Nat
 | []=>0
 | a::l=>nodes a+nodesF l
end
def Bd (d:Int):Int:=1048576 * (5003 - d)
mutual
theorem size_bd:∀ (e:E) (d:Int),Wf e->0<=d->d<=5001->1<=sizeM e d/\sizeM e d<=Bd d
 | .mk _ _ _ _ _ _ _ _ _ _ args,d,hw,h0,h1=>by
  simp only [sizeM];cases hd:ltz 5000 d with
  | true=>simp only [if_true,Bd];omega
  | false =>
   have hd':d<=5000:=by
    rcases Int.lt_or_le 5000 d with h|h
    ·rw [ltz_t h] at hd;cases hd
    ·exact h
   simp only [zAD,if_false];rw [w64 (x:=d+1) (by omega) (by omega)]
   have:=sizeF_bd args (d+1) 1 hw.2.2 (by omega) (by omega) (by omega) (by simp only [Bd];omega)
   refine ⟨by omega,?_⟩
   have:=this.2;simp only [Bd] at this ⊢;omega
theorem sizeF_bd:∀ (l:List E) (d n:Int),Wfs l->0<=d->d<=5001->1<=n->n<=Bd (d - 1)->n<=sizeF d n l/\sizeF d n l<=Bd (d - 1)
 | [],d,n,_,h0,h1,hn,hb=>by simp only [sizeF];omega
 | a::l,d,n,hw,h0,h1,hn,hb=>by
  obtain ⟨a1,a2⟩:=size_bd a d hw.1 h0 h1;simp only [sizeF];cases hc:ltz n 1048576 with
  | false=>simp only [zAD,if_false];omega
  | true =>
   have hc':=ltz_i.1 hc;simp only [if_true];simp only [Bd] at a2 hb;rw [w64 (by omega) (by omega)]
   have:=sizeF_bd l d (n+sizeM a d) hw.2 h0 h1 (by omega) (by simp only [Bd];omega)
   exact ⟨by omega,this.2⟩
end
mutual
theorem size_nodes:∀ (e:E) (d:Int),Wf e->0<=d->d<=5001->sizeM e d<=20000->(nodes e:Int)<=sizeM e d
 | .mk _ _ _ _ _ _ _ _ _ _ args,d,hw,h0,h1,hs=>by
  simp only [sizeM] at hs ⊢;cases hd:ltz 5000 d with
  | true=>rw [hd] at hs;simp only [if_true] at hs;omega
  | false =>
   rw [hd] at hs;have hd':d<=5000:=by
    rcases Int.lt_or_le 5000 d with h|h
    ·rw [ltz_t h] at hd;cases hd
    ·exact h
   simp only [zAD,if_false] at hs ⊢;rw [w64 (x:=d+1) (by omega) (by omega)] at hs ⊢
   have g1:=sizeF_nodes args (d+1) 1 hw.2.2 (by omega) (by omega) (by omega) (by simp only [Bd];omega) hs
   simp only [nodes];omega
theorem sizeF_nodes:∀ (l:List E) (d n:Int),Wfs l->0<=d->d<=5001->1<=n->n<=Bd (d - 1)->sizeF d n l<=20000->n+(nodesF l:Int)<=sizeF d n l
 | [],d,n,hw,h0,h1,hn,hb,hs=>by simp only [sizeF,nodesF] at hs ⊢;omega
 | a::l,d,n,hw,h0,h1,hn,hb,hs=>by
  obtain ⟨a1,a2⟩:=size_bd a d hw.1 h0 h1;simp only [sizeF] at hs ⊢;cases hc:ltz n 1048576 with
  | false =>
   rw [hc] at hs;simp only [zAD,if_false] at hs;rw [ltz_t (by omega)] at hc;cases hc
  | true =>
   have hc':=ltz_i.1 hc;rw [hc] at hs;simp only [if_true] at hs ⊢;simp only [Bd] at a2 hb;rw [w64 (by omega) (by omega)] at hs ⊢
   have hb':n+sizeM a d<=Bd (d - 1):=by simp only [Bd];omega
   have:=(sizeF_bd l d (n+sizeM a d) hw.2 h0 h1 (by omega) hb').1
   have g1:=sizeF_nodes l d (n+sizeM a d) hw.2 h0 h1 (by omega) hb' hs
   have f1:=size_nodes a d hw.1 h0 h1 (by omega)
   simp only [nodesF];omega
end
mutual
theorem parts_ok:∀ (e:E) (d n s:Int),Cor e->0<=d->d+(nodes e:Int)<=4097->0<=n->n+(nodes e:Int)<=65536->(partsM e d n s).1=true/\(partsM e d n s).2.1=n+nodes e
 | .mk op pl s0 s1 s2 s3 text mn mx nl args,d,n,s,hc,h0,h1,h2,h3=>by
  obtain ⟨hl,hk,_,hcs⟩:=hc;simp only [nodes] at h1 h3 ⊢;have e1:ltz 65536 (IntKind.i64.wrap (n+1))=false:=by rw [w64 (by omega) (by omega)];exact zaC (by omega)
  have e2:ltz 4096 d=false:=zaC (by omega)
  simp only [partsM,e1,e2,hl,hk,zBb,zAD,if_false,if_true];rw [w64 (x:=n+1) (by omega) (by omega),w64 (x:=d+1) (by omega) (by omega)]
  have:=partsF_ok args (d+1) (n+1) (if (op == 2)=true then IntKind.i64.wrap (s+1) else s) hcs (by omega) (by omega) (by omega) (by omega)
  exact ⟨this.1,by rw [this.2];omega⟩
theorem partsF_ok:∀ (l:List E) (d n s:Int),Cors l->0<=d->d+(nodesF l:Int)<=4097->0<=n->n+(nodesF l:Int)<=65536->(partsF d l n s).1=true/\(partsF d l n s).2.1=n+nodesF l
 | [],d,n,s,_,_,_,_,_=>by simp [partsF,nodesF]
 | a::l,d,n,s,hc,h0,h1,h2,h3=>by
  simp only [nodesF] at h1 h3 ⊢;obtain ⟨a1,a2⟩:=parts_ok a d n s hc.1 h0 (by omega) h2 (by omega)
  simp only [partsF,a1,if_true];rw [a2];have:=partsF_ok l d (n+nodes a) (partsM a d n s).2.2 hc.2 h0 (by omega) (by omega) (by omega)
  exact ⟨this.1,by rw [this.2];omega⟩
end
theorem zqm {e:E} (hc:Cor e) (hn:nodes e<=4000):vC e=true:=(parts_ok e 1 0 0 hc (by decide) (by omega) (by decide) (by omega)).1
theorem zeY {e:E} (hw:Wf e) (h:sizeM e 0<=20000):(nodes e:Int)<=sizeM e 0:=size_nodes e 0 hw (by decide) (by decide) h
theorem zcD {e:E} (hw:Wf e):1<=sizeM e 0/\sizeM e 0<=Bd 0:=size_bd e 0 hw (by decide) (by decide)
end Go.Proofs.YtlnijcffanjieaaGreatDoor
