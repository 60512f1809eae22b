/- Seat 8, subset: the closed run of layer 11, its hooks. Conditions: none but those that each theorem names. -/
import Derived.Test.YthohlnmcjkjeiaaGreatDoorVmY
namespace Go.Proofs.YthohlnmcjkjeiaaGreatDoor
set_option maxRecDepth 1000000
open Go Go.Vm Go.RowKit Go.ChangeAt Go.WideShapes
def t97:A2.Ints:=(true,[97])
theorem wd0:A2.WD den0 where
 n:=⟨by decide,fun q hq=>by
  have h1:q∈[(true,(List.range 256).map fun y=>if y=97 then (2:Int) else 1),(true,List.replicate 256 1),(true,List.replicate 256 1)]:=hq
  have hz:∀ z∈q.2,z=1\/z=2:=fun z hz=>by
   simp only [zAK,zBI,zBs] at h1;rcases h1 with rfl|rfl|rfl
   ·obtain ⟨y,_,rfl⟩:=zAo.1 hz;split<;>simp
   ·exact .inl (List.eq_of_mem_replicate hz)
   ·exact .inl (List.eq_of_mem_replicate hz)
  have hl:q.2.length=256:=by
   simp only [zAK,zBI,zBs] at h1;rcases h1 with rfl|rfl|rfl<;>simp
  refine ⟨by rw [hl];decide,fun z h=>?_⟩
  unfold A2.W64
  rcases hz z h with rfl|rfl<;>decide⟩
 l:=⟨by decide,fun z hz=>by
  have h1:z∈[(-1:Int),-1,0]:=hz;unfold A2.W64;simp only [zAK,zBI,zBs] at h1
  rcases h1 with rfl|rfl|rfl<;>decide⟩
theorem may0:A2.mayD (A2.rowsOf den0.1) den0.2.2=true:=by kernel_rfl
theorem run0:A2.runV den0 t97.2=.tup [.int .i64 2,.nili]:=by kernel_rfl
def hooksW6:Hooks:=[(33,[A2.dcV den0,A2.bvV t97],.tup [.int .i64 2,.nili]),(27,[A2.dcV den0],.bool true),(28,[wfV,waV],wdV),(14,[wrV],.tup [wfV,.nili]),(45,wdA,wrV),(66,wdA,wpV)]
theorem okW2:wi Tryz.prog glw [(45,wdA,wrV),(66,wdA,wpV)]:=vv mixed numOk primOk (vv mixed numOk primOk zcf (zjE 0) rfl rfl (hit:=fun _ _ _ hty h=>zlZ hty h)) (zl0 0) rfl rfl (hit:=fun _ _ _ hty h=>zlZ hty h)
theorem hkN0:HkOk Tryz.prog { g:=glw,hk:=hkOf [],uq:=uqw }:=⟨fun f args v h=>(by cases h),fun n f args H out H' h=>(by cases h),fun _ _ _ hty h=>zlZ hty h⟩
theorem okW6:wi Tryz.prog glw hooksW6:=by
 refine vg (vg (vg (vg okW2 fun d H g w cargs lc h1 h2 h3=>?_) fun d H g w cargs lc h1 h2 h3=>?_) fun d H g w cargs lc h1 h2 h3=>?_) fun d H g w cargs lc h1 h2 h3=>?_
 ·obtain ⟨u,H',hc,hz⟩:=zqS (zjF 0);exact zmv mixed numOk primOk hkN0 hc rfl hz (fun sz xs e h=>by cases h) h1 h2 h3
 ·obtain ⟨u,H',hc,hz⟩:=buildW_known;exact zmv mixed numOk primOk hkS' hc rfl hz (fun sz xs e h=>by cases h) h1 h2 h3
 ·have he:=A2.ev27 GL0 den0 wd0;rw [may0] at he;obtain ⟨k,hk⟩:=Sx.Ev.run (xs:=[A2.dcV den0]) he ⟨[],[]⟩;exact zc7 mixed numOk primOk hk0 (hk k (zAO _)) (by simp [tops,A2.top_dc]) rfl h1 h2 h3
 ·have he:=A2.ev33 GL0 (by kernel_rfl) den0 wd0 t97 (by decide) (fun b hb=>by
   have h1:b∈[(97:Int)]:=hb;obtain rfl:=zAp.1 h1
   exact ⟨by decide,by decide⟩)
  rw [run0] at he;obtain ⟨k,hk⟩:=Sx.Ev.run (xs:=[A2.dcV den0,A2.bvV t97]) he ⟨[],[]⟩;exact zc7 mixed numOk primOk hk0 (hk k (zAO _)) (by simp [tops,A2.top_dc,A2.top_bv]) rfl h1 h2 h3
theorem zjI (n:Nat):zk Tryz.prog { g:=glw,hk:=hkOf hooksW6,uq:=uqw } (n+60) 26 [] ⟨[],[]⟩=some (.ret (.bool true),⟨[],[]⟩):=by kernel_rfl
theorem okW7:wi Tryz.prog glw ((26,[],.bool true)::hooksW6):=vv mixed numOk primOk okW6 (zjI 0) rfl rfl (hit:=fun _ _ _ hty h=>zlZ hty h)
end Go.Proofs.YthohlnmcjkjeiaaGreatDoor
