/- Part 12: contracts of the functions, and what they rest upon. -/
import Derived.Test.YtaikgchmpieooaaGreatProg
import Derived.Test.YtaikgchmpieooaaGreatP11
namespace Go.Proofs.YtaikgchmpieooaaGreat
namespace Av
set_option linter.unusedSimpArgs false
set_option linter.unusedVariables false
section
def TT:List TI:=[
 ⟨.other,1,0,[.tuple #[]]⟩,
 ⟨.func,1,8,[.nilFunc]⟩,
 ⟨.int .i64,1,8,[.int .i64 0]⟩,
 ⟨.int .i64,1,8,[.int .i64 0]⟩,
 ⟨.bool,1,1,[.bool false]⟩,
 ⟨.int .u8,1,1,[.int .u8 0]⟩,
 ⟨.int .u8,1,1,[.int .u8 0]⟩,
 ⟨.str [(0,2),(1,3),(2,4),(3,6)],4,24,[.int .i64 0,.int .i64 0,.bool false,.int .u8 0]⟩,
 ⟨.str [(0,2),(1,3),(2,4),(3,6)],4,24,[.int .i64 0,.int .i64 0,.bool false,.int .u8 0]⟩,
 ⟨.string,1,16,[.string ⟨#[]⟩]⟩,
 ⟨.string,1,16,[.string ⟨#[]⟩]⟩,
 ⟨.string,1,16,[.string ⟨#[]⟩]⟩,
 ⟨.int .u64,1,8,[.int .u64 0]⟩,
 ⟨.str [(0,9),(1,12)],2,24,[.string ⟨#[]⟩,.int .u64 0]⟩,
 ⟨.str [(0,9),(1,12)],2,24,[.string ⟨#[]⟩,.int .u64 0]⟩,
 ⟨.ptr 241,1,8,[.pointer none]⟩,
 ⟨.ptr 244,1,8,[.pointer none]⟩,
 ⟨.ptr 254,1,8,[.pointer none]⟩,
 ⟨.str [(0,17)],1,8,[.pointer none]⟩,
 ⟨.str [(0,17)],1,8,[.pointer none]⟩,
 ⟨.other,1,16,[.nilIface]⟩,
 ⟨.int .i32,1,4,[.int .i32 0]⟩,
 ⟨.int .i64,1,8,[.int .i64 0]⟩,
 ⟨.slice 5,1,24,[.slice none 0 0]⟩,
 ⟨.str [(0,22),(1,3),(2,23)],3,40,[.int .i64 0,.int .i64 0,.slice none 0 0]⟩,
 ⟨.str [(0,22),(1,3),(2,23)],3,40,[.int .i64 0,.int .i64 0,.slice none 0 0]⟩,
 ⟨.slice 3,1,24,[.slice none 0 0]⟩,
 ⟨.func,1,8,[.nilFunc]⟩,
 ⟨.func,1,8,[.nilFunc]⟩,
 ⟨.ptr 103,1,8,[.pointer none]⟩,
 ⟨.func,1,8,[.nilFunc]⟩,
 ⟨.slice 77,1,24,[.slice none 0 0]⟩,
 ⟨.slice 36,1,24,[.slice none 0 0]⟩,
 ⟨.str [(0,31),(1,32),(2,3),(3,3),(4,3),(5,3)],6,80,[.slice none 0 0,.slice none 0 0,.int .i64 0,.int .i64 0,.int .i64 0,.int .i64 0]⟩,
 ⟨.str [(0,31),(1,32),(2,3),(3,3),(4,3),(5,3)],6,80,[.slice none 0 0,.slice none 0 0,.int .i64 0,.int .i64 0,.int .i64 0,.int .i64 0]⟩,
 ⟨.str [(0,23),(1,3),(2,3),(3,26),(4,3),(5,3),(6,3),(7,3)],8,96,[.slice none 0 0,.int .i64 0,.int .i64 0,.slice none 0 0,.int .i64 0,.int .i64 0,.int .i64 0,.int .i64 0]⟩,
 ⟨.str [(0,23),(1,3),(2,3),(3,26),(4,3),(5,3),(6,3),(7,3)],8,96,[.slice none 0 0,.int .i64 0,.int .i64 0,.slice none 0 0,.int .i64 0,.int .i64 0,.int .i64 0,.int .i64 0]⟩,
 ⟨.slice 70,1,24,[.slice none 0 0]⟩,
 ⟨.slice 159,1,24,[.slice none 0 0]⟩,
 ⟨.str [(0,3),(1,3),(2,3)],3,24,[.int .i64 0,.int .i64 0,.int .i64 0]⟩,
 ⟨.str [(0,3),(1,3),(2,3)],3,24,[.int .i64 0,.int .i64 0,.int .i64 0]⟩,
 ⟨.str [(0,3),(1,36),(9,37),(10,38),(11,40)],14,176,[.int .i64 0,.slice none 0 0,.int .i64 0,.int .i64 0,.slice none 0 0,.int .i64 0,.int .i64 0,.int .i64 0,.int .i64 0,.slice none 0 0,.slice none 0 0,.int .i64 0,.int .i64 0,.int .i64 0]⟩,
 ⟨.str [(0,3),(1,36),(9,37),(10,38),(11,40)],14,176,[.int .i64 0,.slice none 0 0,.int .i64 0,.int .i64 0,.slice none 0 0,.int .i64 0,.int .i64 0,.int .i64 0,.int .i64 0,.slice none 0 0,.slice none 0 0,.int .i64 0,.int .i64 0,.int .i64 0]⟩,
 ⟨.slice 81,1,24,[.slice none 0 0]⟩,
 ⟨.slice 23,1,24,[.slice none 0 0]⟩,
 ⟨.slice 4,1,24,[.slice none 0 0]⟩,
 ⟨.str [(0,42),(14,43),(15,44),(16,45)],17,248,[.int .i64 0,.slice none 0 0,.int .i64 0,.int .i64 0,.slice none 0 0,.int .i64 0,.int .i64 0,.int .i64 0,.int .i64 0,.slice none 0 0,.slice none 0 0,.int .i64 0,.int .i64 0,.int .i64 0,.slice none 0 0,.slice none 0 0,.slice none 0 0]⟩,
 ⟨.str [(0,42),(14,43),(15,44),(16,45)],17,248,[.int .i64 0,.slice none 0 0,.int .i64 0,.int .i64 0,.slice none 0 0,.int .i64 0,.int .i64 0,.int .i64 0,.int .i64 0,.slice none 0 0,.slice none 0 0,.int .i64 0,.int .i64 0,.int .i64 0,.slice none 0 0,.slice none 0 0,.slice none 0 0]⟩,
 ⟨.other,1,0,[.tuple #[.agg #[.slice none 0 0,.slice none 0 0,.int .i64 0,.int .i64 0,.int .i64 0,.int .i64 0],.agg #[.int .i64 0,.slice none 0 0,.int .i64 0,.int .i64 0,.slice none 0 0,.int .i64 0,.int .i64 0,.int .i64 0,.int .i64 0,.slice none 0 0,.slice none 0 0,.int .i64 0,.int .i64 0,.int .i64 0,.slice none 0 0,.slice none 0 0,.slice none 0 0]]]⟩,
 ⟨.func,1,8,[.nilFunc]⟩,
 ⟨.func,1,8,[.nilFunc]⟩,
 ⟨.func,1,8,[.nilFunc]⟩,
 ⟨.func,1,8,[.nilFunc]⟩,
 ⟨.str [(0,3),(1,23),(2,26),(3,23)],4,80,[.int .i64 0,.slice none 0 0,.slice none 0 0,.slice none 0 0]⟩,
 ⟨.str [(0,3),(1,23),(2,26),(3,23)],4,80,[.int .i64 0,.slice none 0 0,.slice none 0 0,.slice none 0 0]⟩,
 ⟨.str [(0,3),(1,3),(2,22)],3,24,[.int .i64 0,.int .i64 0,.int .i64 0]⟩,
 ⟨.str [(0,3),(1,3),(2,22)],3,24,[.int .i64 0,.int .i64 0,.int .i64 0]⟩,
 ⟨.other,1,0,[.tuple #[.agg #[.int .i64 0,.slice none 0 0,.int .i64 0,.int .i64 0,.slice none 0 0,.int .i64 0,.int .i64 0,.int .i64 0,.int .i64 0,.slice none 0 0,.slice none 0 0,.int .i64 0,.int .i64 0,.int .i64 0,.slice none 0 0,.slice none 0 0,.slice none 0 0],.agg #[.int .i64 0,.slice none 0 0,.slice none 0 0,.slice none 0 0],.agg #[.int .i64 0,.int .i64 0,.int .i64 0],.int .i64 0]]⟩,
 ⟨.func,1,8,[.nilFunc]⟩,
 ⟨.func,1,8,[.nilFunc]⟩,
 ⟨.func,1,8,[.nilFunc]⟩,
 ⟨.func,1,8,[.nilFunc]⟩,
 ⟨.func,1,8,[.nilFunc]⟩,
 ⟨.func,1,8,[.nilFunc]⟩,
 ⟨.func,1,8,[.nilFunc]⟩,
 ⟨.func,1,8,[.nilFunc]⟩,
 ⟨.func,1,8,[.nilFunc]⟩,
 ⟨.other,1,0,[.tuple #[.agg #[.int .i64 0,.slice none 0 0,.slice none 0 0,.slice none 0 0],.int .i64 0]]⟩,
 ⟨.func,1,8,[.nilFunc]⟩,
 ⟨.str [(0,4),(1,23),(2,3),(3,3),(4,3),(5,3)],6,64,[.bool false,.slice none 0 0,.int .i64 0,.int .i64 0,.int .i64 0,.int .i64 0]⟩,
 ⟨.str [(0,4),(1,23),(2,3),(3,3),(4,3),(5,3)],6,64,[.bool false,.slice none 0 0,.int .i64 0,.int .i64 0,.int .i64 0,.int .i64 0]⟩,
 ⟨.func,1,8,[.nilFunc]⟩,
 ⟨.other,1,0,[.tuple #[.slice none 0 0,.int .i64 0]]⟩,
 ⟨.func,1,8,[.nilFunc]⟩,
 ⟨.func,1,8,[.nilFunc]⟩,
 ⟨.slice 167,1,24,[.slice none 0 0]⟩,
 ⟨.str [(0,75),(1,26),(2,3)],3,56,[.slice none 0 0,.slice none 0 0,.int .i64 0]⟩,
 ⟨.str [(0,75),(1,26),(2,3)],3,56,[.slice none 0 0,.slice none 0 0,.int .i64 0]⟩,
 ⟨.func,1,8,[.nilFunc]⟩,
 ⟨.slice 83,1,24,[.slice none 0 0]⟩,
 ⟨.str [(0,3),(1,3),(2,3),(3,3),(4,79)],5,56,[.int .i64 0,.int .i64 0,.int .i64 0,.int .i64 0,.slice none 0 0]⟩,
 ⟨.str [(0,3),(1,3),(2,3),(3,3),(4,79)],5,56,[.int .i64 0,.int .i64 0,.int .i64 0,.int .i64 0,.slice none 0 0]⟩,
 ⟨.str [(0,3),(1,3),(2,3),(3,3),(4,3)],5,40,[.int .i64 0,.int .i64 0,.int .i64 0,.int .i64 0,.int .i64 0]⟩,
 ⟨.str [(0,3),(1,3),(2,3),(3,3),(4,3)],5,40,[.int .i64 0,.int .i64 0,.int .i64 0,.int .i64 0,.int .i64 0]⟩,
 ⟨.func,1,8,[.nilFunc]⟩,
 ⟨.func,1,8,[.nilFunc]⟩,
 ⟨.slice 89,1,24,[.slice none 0 0]⟩,
 ⟨.slice 25,1,24,[.slice none 0 0]⟩,
 ⟨.str [(0,4),(1,87)],2,32,[.bool false,.slice none 0 0]⟩,
 ⟨.str [(0,4),(1,87)],2,32,[.bool false,.slice none 0 0]⟩,
 ⟨.slice 95,1,24,[.slice none 0 0]⟩,
 ⟨.slice 56,1,24,[.slice none 0 0]⟩,
 ⟨.other,1,0,[.tuple #[.agg #[.int .i64 0,.slice none 0 0,.int .i64 0,.int .i64 0,.slice none 0 0,.int .i64 0,.int .i64 0,.int .i64 0,.int .i64 0,.slice none 0 0,.slice none 0 0,.int .i64 0,.int .i64 0,.int .i64 0,.slice none 0 0,.slice none 0 0,.slice none 0 0],.slice none 0 0,.slice none 0 0,.slice none 0 0]]⟩,
 ⟨.func,1,8,[.nilFunc]⟩,
 ⟨.func,1,8,[.nilFunc]⟩,
 ⟨.slice 54,1,24,[.slice none 0 0]⟩,
 ⟨.slice 98,1,24,[.slice none 0 0]⟩,
 ⟨.str [(0,4),(1,4),(2,26),(3,26)],4,56,[.bool false,.bool false,.slice none 0 0,.slice none 0 0]⟩,
 ⟨.str [(0,4),(1,4),(2,26),(3,26)],4,56,[.bool false,.bool false,.slice none 0 0,.slice none 0 0]⟩,
 ⟨.func,1,8,[.nilFunc]⟩,
 ⟨.func,1,8,[.nilFunc]⟩,
 ⟨.func,1,8,[.nilFunc]⟩,
 ⟨.str [(0,26),(1,3)],2,32,[.slice none 0 0,.int .i64 0]⟩,
 ⟨.str [(0,26),(1,3)],2,32,[.slice none 0 0,.int .i64 0]⟩,
 ⟨.func,1,8,[.nilFunc]⟩,
 ⟨.func,1,8,[.nilFunc]⟩,
 ⟨.func,1,8,[.nilFunc]⟩,
 ⟨.other,1,0,[.tuple #[.agg #[.int .i64 0,.slice none 0 0,.int .i64 0,.int .i64 0,.slice none 0 0,.int .i64 0,.int .i64 0,.int .i64 0,.int .i64 0,.slice none 0 0,.slice none 0 0,.int .i64 0,.int .i64 0,.int .i64 0,.slice none 0 0,.slice none 0 0,.slice none 0 0],.agg #[.int .i64 0,.slice none 0 0,.slice none 0 0,.slice none 0 0],.int .i64 0,.int .i64 0]]⟩,
 ⟨.func,1,8,[.nilFunc]⟩,
 ⟨.func,1,8,[.nilFunc]⟩,
 ⟨.other,1,0,[.tuple #[.agg #[.int .i64 0,.slice none 0 0,.int .i64 0,.int .i64 0,.slice none 0 0,.int .i64 0,.int .i64 0,.int .i64 0,.int .i64 0,.slice none 0 0,.slice none 0 0,.int .i64 0,.int .i64 0,.int .i64 0],.int .i64 0,.int .i64 0]]⟩,
 ⟨.func,1,8,[.nilFunc]⟩,
 ⟨.func,1,8,[.nilFunc]⟩,
 ⟨.func,1,8,[.nilFunc]⟩,
 ⟨.func,1,8,[.nilFunc]⟩,
 ⟨.func,1,8,[.nilFunc]⟩,
 ⟨.func,1,8,[.nilFunc]⟩,
 ⟨.func,1,8,[.nilFunc]⟩,
 ⟨.func,1,8,[.nilFunc]⟩,
 ⟨.str [(0,3),(1,3),(2,3),(3,3),(4,3)],5,40,[.int .i64 0,.int .i64 0,.int .i64 0,.int .i64 0,.int .i64 0]⟩,
 ⟨.str [(0,3),(1,3),(2,3),(3,3),(4,3)],5,40,[.int .i64 0,.int .i64 0,.int .i64 0,.int .i64 0,.int .i64 0]⟩,
 ⟨.func,1,8,[.nilFunc]⟩,
 ⟨.other,1,0,[.tuple #[.slice none 0 0,.slice none 0 0,.bool false]]⟩,
 ⟨.func,1,8,[.nilFunc]⟩,
 ⟨.func,1,8,[.nilFunc]⟩,
 ⟨.func,1,8,[.nilFunc]⟩,
 ⟨.func,1,8,[.nilFunc]⟩,
 ⟨.func,1,8,[.nilFunc]⟩,
 ⟨.func,1,8,[.nilFunc]⟩,
 ⟨.func,1,8,[.nilFunc]⟩,
 ⟨.func,1,8,[.nilFunc]⟩,
 ⟨.func,1,8,[.nilFunc]⟩,
 ⟨.int .u64,1,8,[.int .u64 0]⟩,
 ⟨.int .u64,1,8,[.int .u64 0]⟩,
 ⟨.func,1,8,[.nilFunc]⟩,
 ⟨.other,1,0,[.tuple #[.agg #[.int .i64 0,.slice none 0 0,.int .i64 0,.int .i64 0,.slice none 0 0,.int .i64 0,.int .i64 0,.int .i64 0,.int .i64 0,.slice none 0 0,.slice none 0 0,.int .i64 0,.int .i64 0,.int .i64 0,.slice none 0 0,.slice none 0 0,.slice none 0 0],.agg #[.int .i64 0,.slice none 0 0,.slice none 0 0,.slice none 0 0],.int .i64 0]]⟩,
 ⟨.func,1,8,[.nilFunc]⟩,
 ⟨.other,1,0,[.tuple #[.slice none 0 0,.int .i64 0]]⟩,
 ⟨.func,1,8,[.nilFunc]⟩,
 ⟨.func,1,8,[.nilFunc]⟩,
 ⟨.func,1,8,[.nilFunc]⟩,
 ⟨.func,1,8,[.nilFunc]⟩,
 ⟨.func,1,8,[.nilFunc]⟩,
 ⟨.func,1,8,[.nilFunc]⟩,
 ⟨.func,1,8,[.nilFunc]⟩,
 ⟨.other,1,0,[.tuple #[.int .i64 0,.int .i64 0]]⟩,
 ⟨.func,1,8,[.nilFunc]⟩,
 ⟨.other,1,0,[.tuple #[.agg #[.int .i64 0,.int .i64 0,.int .i64 0],.bool false]]⟩,
 ⟨.func,1,8,[.nilFunc]⟩,
 ⟨.other,1,0,[.tuple #[.agg #[.int .i64 0,.slice none 0 0,.int .i64 0,.int .i64 0,.slice none 0 0,.int .i64 0,.int .i64 0,.int .i64 0,.int .i64 0,.slice none 0 0,.slice none 0 0,.int .i64 0,.int .i64 0,.int .i64 0,.slice none 0 0,.slice none 0 0,.slice none 0 0],.int .i64 0]]⟩,
 ⟨.func,1,8,[.nilFunc]⟩,
 ⟨.func,1,8,[.nilFunc]⟩,
 ⟨.func,1,8,[.nilFunc]⟩,
 ⟨.func,1,8,[.nilFunc]⟩,
 ⟨.func,1,8,[.nilFunc]⟩,
 ⟨.func,1,8,[.nilFunc]⟩,
 ⟨.func,1,8,[.nilFunc]⟩,
 ⟨.func,1,8,[.nilFunc]⟩,
 ⟨.str [(0,3),(1,3)],2,16,[.int .i64 0,.int .i64 0]⟩,
 ⟨.str [(0,3),(1,3)],2,16,[.int .i64 0,.int .i64 0]⟩,
 ⟨.other,1,0,[.tuple #[.int .i64 0,.int .i64 0,.int .i64 0]]⟩,
 ⟨.func,1,8,[.nilFunc]⟩,
 ⟨.func,1,8,[.nilFunc]⟩,
 ⟨.slice 165,1,24,[.slice none 0 0]⟩,
 ⟨.func,1,8,[.nilFunc]⟩,
 ⟨.arr 2 3,2,16,[.int .i64 0,.int .i64 0]⟩,
 ⟨.str [(0,3),(1,3),(2,3),(3,3),(4,3),(5,3),(6,3),(7,3)],8,64,[.int .i64 0,.int .i64 0,.int .i64 0,.int .i64 0,.int .i64 0,.int .i64 0,.int .i64 0,.int .i64 0]⟩,
 ⟨.str [(0,3),(1,3),(2,3),(3,3),(4,3),(5,3),(6,3),(7,3)],8,64,[.int .i64 0,.int .i64 0,.int .i64 0,.int .i64 0,.int .i64 0,.int .i64 0,.int .i64 0,.int .i64 0]⟩,
 ⟨.func,1,8,[.nilFunc]⟩,
 ⟨.func,1,8,[.nilFunc]⟩,
 ⟨.func,1,8,[.nilFunc]⟩,
 ⟨.func,1,8,[.nilFunc]⟩,
 ⟨.func,1,8,[.nilFunc]⟩,
 ⟨.func,1,8,[.nilFunc]⟩,
 ⟨.func,1,8,[.nilFunc]⟩,
 ⟨.str [(0,3),(1,3),(2,3),(3,3),(4,3),(5,3)],6,48,[.int .i64 0,.int .i64 0,.int .i64 0,.int .i64 0,.int .i64 0,.int .i64 0]⟩,
 ⟨.str [(0,3),(1,3),(2,3),(3,3),(4,3),(5,3)],6,48,[.int .i64 0,.int .i64 0,.int .i64 0,.int .i64 0,.int .i64 0,.int .i64 0]⟩,
 ⟨.other,1,0,[.tuple #[.agg #[.int .i64 0,.int .i64 0,.int .i64 0,.int .i64 0,.int .i64 0,.int .i64 0],.bool false]]⟩,
 ⟨.func,1,8,[.nilFunc]⟩,
 ⟨.other,1,0,[.tuple #[.agg #[.int .i64 0,.slice none 0 0,.int .i64 0,.int .i64 0,.slice none 0 0,.int .i64 0,.int .i64 0,.int .i64 0,.int .i64 0,.slice none 0 0,.slice none 0 0,.int .i64 0,.int .i64 0,.int .i64 0],.agg #[.int .i64 0,.slice none 0 0,.slice none 0 0,.slice none 0 0],.bool false,.int .i64 0]]⟩,
 ⟨.func,1,8,[.nilFunc]⟩,
 ⟨.func,1,8,[.nilFunc]⟩,
 ⟨.func,1,8,[.nilFunc]⟩,
 ⟨.func,1,8,[.nilFunc]⟩,
 ⟨.func,1,8,[.nilFunc]⟩,
 ⟨.func,1,8,[.nilFunc]⟩,
 ⟨.other,1,0,[.tuple #[.agg #[.int .i64 0,.int .i64 0],.bool false]]⟩,
 ⟨.func,1,8,[.nilFunc]⟩,
 ⟨.other,1,0,[.tuple #[.agg #[.int .i64 0,.int .i64 0,.int .i64 0,.int .i64 0,.int .i64 0],.int .i64 0]]⟩,
 ⟨.func,1,8,[.nilFunc]⟩,
 ⟨.func,1,8,[.nilFunc]⟩,
 ⟨.func,1,8,[.nilFunc]⟩,
 ⟨.func,1,8,[.nilFunc]⟩,
 ⟨.func,1,8,[.nilFunc]⟩,
 ⟨.func,1,8,[.nilFunc]⟩,
 ⟨.func,1,8,[.nilFunc]⟩,
 ⟨.func,1,8,[.nilFunc]⟩,
 ⟨.func,1,8,[.nilFunc]⟩,
 ⟨.func,1,8,[.nilFunc]⟩,
 ⟨.func,1,8,[.nilFunc]⟩,
 ⟨.func,1,8,[.nilFunc]⟩,
 ⟨.func,1,8,[.nilFunc]⟩,
 ⟨.func,1,8,[.nilFunc]⟩,
 ⟨.func,1,8,[.nilFunc]⟩,
 ⟨.ptr 42,1,8,[.pointer none]⟩,
 ⟨.other,1,0,[.tuple #[.slice none 0 0,.int .i64 0]]⟩,
 ⟨.func,1,8,[.nilFunc]⟩,
 ⟨.func,1,8,[.nilFunc]⟩,
 ⟨.other,1,0,[.tuple #[.slice none 0 0,.int .i64 0]]⟩,
 ⟨.func,1,8,[.nilFunc]⟩,
 ⟨.func,1,8,[.nilFunc]⟩,
 ⟨.func,1,8,[.nilFunc]⟩,
 ⟨.other,1,0,[.tuple #[.slice none 0 0,.int .i64 0,.int .i64 0]]⟩,
 ⟨.func,1,8,[.nilFunc]⟩,
 ⟨.func,1,8,[.nilFunc]⟩,
 ⟨.func,1,8,[.nilFunc]⟩,
 ⟨.func,1,8,[.nilFunc]⟩,
 ⟨.other,1,0,[.tuple #[.agg #[.int .i64 0,.int .i64 0,.int .i64 0,.int .i64 0,.slice none 0 0],.bool false]]⟩,
 ⟨.func,1,8,[.nilFunc]⟩,
 ⟨.func,1,8,[.nilFunc]⟩,
 ⟨.func,1,8,[.nilFunc]⟩,
 ⟨.func,1,8,[.nilFunc]⟩,
 ⟨.func,1,8,[.nilFunc]⟩,
 ⟨.func,1,8,[.nilFunc]⟩,
 ⟨.func,1,8,[.nilFunc]⟩,
 ⟨.func,1,8,[.nilFunc]⟩,
 ⟨.func,1,8,[.nilFunc]⟩,
 ⟨.func,1,8,[.nilFunc]⟩,
 ⟨.func,1,8,[.nilFunc]⟩,
 ⟨.func,1,8,[.nilFunc]⟩,
 ⟨.func,1,8,[.nilFunc]⟩,
 ⟨.other,1,0,[.tuple #[.int .i64 0,.bool false]]⟩,
 ⟨.func,1,8,[.nilFunc]⟩,
 ⟨.func,1,8,[.nilFunc]⟩,
 ⟨.func,1,8,[.nilFunc]⟩,
 ⟨.slice 38,1,24,[.slice none 0 0]⟩,
 ⟨.func,1,8,[.nilFunc]⟩,
 ⟨.func,1,8,[.nilFunc]⟩,
 ⟨.func,1,8,[.nilFunc]⟩,
 ⟨.func,1,8,[.nilFunc]⟩,
 ⟨.str [(0,17),(1,17),(2,17),(3,9)],4,40,[.pointer none,.pointer none,.pointer none,.string ⟨#[]⟩]⟩,
 ⟨.str [(0,17),(1,17),(2,17),(3,9)],4,40,[.pointer none,.pointer none,.pointer none,.string ⟨#[]⟩]⟩,
 ⟨.arr 0 16,0,0,[]⟩,
 ⟨.str [(0,242)],0,0,[]⟩,
 ⟨.str [(0,242)],0,0,[]⟩,
 ⟨.func,1,8,[.nilFunc]⟩,
 ⟨.int .u32,1,4,[.int .u32 0]⟩,
 ⟨.int .u8,1,1,[.int .u8 0]⟩,
 ⟨.int .u8,1,1,[.int .u8 0]⟩,
 ⟨.func,1,8,[.nilFunc]⟩,
 ⟨.ptr 5,1,8,[.pointer none]⟩,
 ⟨.int .i32,1,4,[.int .i32 0]⟩,
 ⟨.int .i32,1,4,[.int .i32 0]⟩,
 ⟨.str [(0,12),(1,12),(2,246),(3,247),(4,5),(5,5),(6,248),(7,249),(8,250),(9,251),(10,252)],11,48,[.int .u64 0,.int .u64 0,.int .u32 0,.int .u8 0,.int .u8 0,.int .u8 0,.int .u8 0,.nilFunc,.pointer none,.int .i32 0,.int .i32 0]⟩,
 ⟨.str [(0,12),(1,12),(2,246),(3,247),(4,5),(5,5),(6,248),(7,249),(8,250),(9,251),(10,252)],11,48,[.int .u64 0,.int .u64 0,.int .u32 0,.int .u8 0,.int .u8 0,.int .u8 0,.int .u8 0,.nilFunc,.pointer none,.int .i32 0,.int .i32 0]⟩,
 ⟨.other,1,8,[.pointer none]⟩]
theorem tok:TOK Tryz.prog TT:=tok_of_map (by kernel_rfl)
end
section
section
variable {P:Program} {TT:List TI} {K0:List Nat} {F:Fr K0} {m:Nat} {ops:Array Oper} {rest:List Oper} {Q:List FP→St→Prop} {tm:List (Nat×AV)} {h:List (Nat×Ent)} {dr:Bool} {fs:List FP}
variable {ty:Nat} {pos:String} {after:Array Edge} {t:Nat}
theorem all1 {h:List (Nat×Ent)} {t:Nat} (hn:(lookE h t).isNone=true): [t].all (fun j=>(lookE h j).isNone)=true:=by simpa using hn
theorem stp_load_fpa (hP:TOK P TT) {T i:Nat} {x:Operand} {xs cs:List AV} {ti:TI} (hx:opv (look tm) x= .fp xs i 0) (hT:TT[T]? =some ti) (ha:ti.d.agg=true) (hy:xs[i]? =some (.agg cs)) (hs:Nat.beq ti.size cs.length=true):
  Stp P ⟨tm,h⟩ (.load T x) (.agg cs) [] [] []:=by
 have e:=Nat.eq_of_beq_eq_true hs
 refine stp_load_fp hP hx hy hT ?_
 unfold ldv
 rw[ha,e]
 simp[AV.cells,Nat.ble_eq_true_of_le (Nat.le_refl cs.length)]
theorem stp_load_fp1 (hP:TOK P TT) {T i off:Nat} {x:Operand} {xs:List AV} {y v:AV} {ti:TI} (hx:opv (look tm) x= .fp xs i off) (hT:TT[T]? =some ti) (ha:ti.d.agg=false) (hy:xs[i]? =some y) (hv:y.cells[off]? =some v):
  Stp P ⟨tm,h⟩ (.load T x) v [] [] []:=by
 refine stp_load_fp hP hx hy hT ?_
 unfold ldv
 rw[ha]
 exact hv
theorem stp_load_arra (hP:TOK P TT) {T k i sz:Nat} {x:Operand} {xs cs:List AV} {sl:Fl} {ti:TI} (hx:opv (look tm) x= .ptr k i 0) (hk:lookE h k=some (.arr sz xs sl)) (hT:TT[T]? =some ti) (ha:ti.d.agg=true) (hy:xs[i]? =some (.agg cs)) (hs:Nat.beq ti.size cs.length=true):
  Stp P ⟨tm,h⟩ (.load T x) (.agg cs) [] [k] []:=by
 have e:=Nat.eq_of_beq_eq_true hs
 refine stp_load_arr hP hx hk hy hT ?_
 unfold ldv
 rw[ha,e]
 simp[AV.cells,Nat.ble_eq_true_of_le (Nat.le_refl cs.length)]
theorem stp_load_arr1 (hP:TOK P TT) {T k i off sz:Nat} {x:Operand} {xs:List AV} {sl:Fl} {y v:AV} {ti:TI} (hx:opv (look tm) x= .ptr k i off) (hk:lookE h k=some (.arr sz xs sl)) (hT:TT[T]? =some ti) (ha:ti.d.agg=false) (hy:xs[i]? =some y) (hv:y.cells[off]? =some v):
  Stp P ⟨tm,h⟩ (.load T x) v [] [k] []:=by
 refine stp_load_arr hP hx hk hy hT ?_
 unfold ldv
 rw[ha]
 exact hv
theorem x_appnil (hP:TOK P TT) {T e:Nat} {s x:Operand} {ti te:TI} {xv:AV} {ys:List AV} (hs:opv (look tm) s= .s (.slice none 0 0)) (hx:opv (look tm) x=xv) (hT:TT[T]? =some ti) (hd:ti.d= .slice e) (he:TT[e]? =some te)
  (hys:els (lookE h) xv=some ys) (hsz:∀y,ys[0]? =some y→y.cells.length=te.size) (hp:Nat.ble 1 te.size=true) (hb:Nat.ble te.bytes 65536=true) (hz:Nat.beq te.zero.length te.size=true) (hn:ys.length≤1073741824) (hm:Nat.blt t m=true) (hnn:(lookE h t).isNone=true)
  {sz:Nat} (hse:te.size=sz) (hk:OpsX P F m ops dr rest ⟨(t,.ref t 0 ys.length)::tm,(t,.arr sz ys false)::h⟩ (⟨true,[t,t],elk xv⟩::fs) Q) (hz1:te.zero.all (·.oneCell')=true:=by rfl):OpsX P F m ops dr (⟨some t,.call ⟨.builtin .append, #[s,x], #[T,T]⟩,ty,pos,after,none⟩::rest) ⟨tm,h⟩ fs Q:=by
 subst hse;exact x_w (nw:=[t]) (stp_append_nil hP t hs hx hT hd he hys hsz hp hb hz hz1 hn) hm (all1 hnn) rfl hk
theorem x_mks (hP:TOK P TT) {T e n:Nat} {x y:Operand} {ti te:TI} {kx ky:IntKind} {nx ny:Int} {z:AV} (hx:opv (look tm) x= .s (.int kx nx)) (hy:opv (look tm) y= .s (.int ky ny)) (hT:TT[T]? =some ti) (hd:ti.d= .slice e) (he:TT[e]? =some te)
  (hb:Nat.ble te.bytes 65536=true) (hp:Nat.ble 1 te.size=true) (hzl:Nat.beq te.zero.length te.size=true) (hz1:te.zero.all (·.oneCell')=true) (hzc:Nat.beq (zeroA te).cells.length te.size=true) (hzc2:(zeroA te).cells=te.zero.map .s) (hz:zeroA te=z)
  (hnx:nx=(n:Int)) (hny:nx≤ny) (hmax:ny≤1073741824) (hm:Nat.blt t m=true) (hnn:(lookE h t).isNone=true)
  {sz:Nat} (hse:te.size=sz) (hk:OpsX P F m ops dr rest ⟨(t,.ref t 0 n)::tm,(t,.arr sz (List.replicate n z) false)::h⟩ (⟨true,[t,t],[]⟩::fs) Q):OpsX P F m ops dr (⟨some t,.makeSlice T x y,ty,pos,after,none⟩::rest) ⟨tm,h⟩ fs Q:=by
 subst hse hz;exact x_w (nw:=[t]) (stp_makeSlice hP t hx hy hT hd he hnx hny hmax hb hp hzl hz1 hzc hzc2) hm (all1 hnn) rfl hk
theorem x_appref (hP:TOK P TT) {T e:Nat} {s x:Operand} {ti te:TI} {k sz len:Nat} {xs:List AV} {sb:Bool} {xv:AV} {ys:List AV} (hs:opv (look tm) s= .ref k 0 len) (hk:lookE h k=some (.arr sz xs ⟨sb,false⟩)) (hx:opv (look tm) x=xv) (hT:TT[T]? =some ti) (hd:ti.d= .slice e) (he:TT[e]? =some te)
  (hys:els (lookE h) xv=some ys) (hss:Nat.beq sz te.size=true) (hb:Nat.ble te.bytes 65536=true) (hz:Nat.beq te.zero.length te.size=true) (hlen:len=xs.length) (hsz:∀y,ys[0]? =some y→y.cells.length=sz) (hn:xs.length+ys.length≤1073741824) (hm:Nat.blt t m=true)
  (hr:OpsX P F m ops dr rest ⟨(t,.ref k 0 (xs++ys).length)::tm,(k,.arr sz (xs++ys) true)::h⟩ (⟨true,[k],k::elk xv⟩::fs) Q) (hz1:te.zero.all (·.oneCell')=true:=by rfl):OpsX P F m ops dr (⟨some t,.call ⟨.builtin .append, #[s,x], #[T,T]⟩,ty,pos,after,none⟩::rest) ⟨tm,h⟩ fs Q:=by
 subst hlen;exact x_w (nw:=[]) (stp_append_ref hP hs hk hx hT hd he hys hsz hss hb hz hz1 hn) hm rfl rfl hr
theorem x_apprefN (hP:TOK P TT) {T e:Nat} {s x:Operand} {ti te:TI} {k sz len:Nat} {xs:List AV} {sl:Fl} {xv:AV} {ys:List AV} (hs:opv (look tm) s= .ref k 0 len) (hk:lookE h k=some (.arr sz xs sl)) (hx:opv (look tm) x=xv) (hT:TT[T]? =some ti) (hd:ti.d= .slice e) (he:TT[e]? =some te)
  (hys:elsG true (lookE h) xv=some ys) (hss:Nat.beq sz te.size=true) (hb:Nat.ble te.bytes 65536=true) (hz:Nat.beq te.zero.length te.size=true) (hlen:len=xs.length) (hsz:∀y,ys[0]? =some y→y.cells.length=sz) (hn:xs.length+ys.length≤1073741824) (hm:Nat.blt t m=true)
  (hr:OpsX P F m ops dr rest ⟨(t,.ref k 0 (xs++ys).length)::tm,(k,.arr sz (xs++ys) ⟨true,true⟩)::h⟩ (⟨true,[k],k::elk xv⟩::fs) Q) (hz1:te.zero.all (·.oneCell')=true:=by rfl):OpsX P F m ops dr (⟨some t,.call ⟨.builtin .append, #[s,x], #[T,T]⟩,ty,pos,after,none⟩::rest) ⟨tm,h⟩ fs Q:=by
 subst hlen;exact x_w (nw:=[]) (stp_append_refN hP hs hk hx hT hd he hys hsz hss hb hz hz1 hn) hm rfl rfl hr
section
variable {op:BinOp} {tx t2:Nat} {x y:Operand} {k:IntKind} {a b:Int} (hx:opv (look tm) x= .s (.int k a)) (hy:opv (look tm) y= .s (.int k b))
include hx hy
theorem stp_lt_t (hh:a<b):Stp P ⟨tm,h⟩ (.binOp .lss tx x y t2) (.s (.bool true)) [] [] []:=by have:=stp_lss (P:=P) (st:=⟨tm,h⟩) (tx:=tx) (ty:=t2) hx hy;rwa [decide_eq_true hh]at this
theorem stp_lt_f (hh:¬a<b):Stp P ⟨tm,h⟩ (.binOp .lss tx x y t2) (.s (.bool false)) [] [] []:=by have:=stp_lss (P:=P) (st:=⟨tm,h⟩) (tx:=tx) (ty:=t2) hx hy;rwa [decide_eq_false hh]at this
theorem stp_le_t (hh:a≤b):Stp P ⟨tm,h⟩ (.binOp .leq tx x y t2) (.s (.bool true)) [] [] []:=by have:=stp_leq (P:=P) (st:=⟨tm,h⟩) (tx:=tx) (ty:=t2) hx hy;rwa [decide_eq_true hh]at this
theorem stp_le_f (hh:¬a≤b):Stp P ⟨tm,h⟩ (.binOp .leq tx x y t2) (.s (.bool false)) [] [] []:=by have:=stp_leq (P:=P) (st:=⟨tm,h⟩) (tx:=tx) (ty:=t2) hx hy;rwa [decide_eq_false hh]at this
theorem stp_gt_t (hh:b<a):Stp P ⟨tm,h⟩ (.binOp .gtr tx x y t2) (.s (.bool true)) [] [] []:=by have:=stp_gtr (P:=P) (st:=⟨tm,h⟩) (tx:=tx) (ty:=t2) hx hy;rwa [decide_eq_true hh]at this
theorem stp_gt_f (hh:¬b<a):Stp P ⟨tm,h⟩ (.binOp .gtr tx x y t2) (.s (.bool false)) [] [] []:=by have:=stp_gtr (P:=P) (st:=⟨tm,h⟩) (tx:=tx) (ty:=t2) hx hy;rwa [decide_eq_false hh]at this
theorem stp_ge_t (hh:b≤a):Stp P ⟨tm,h⟩ (.binOp .geq tx x y t2) (.s (.bool true)) [] [] []:=by have:=stp_geq (P:=P) (st:=⟨tm,h⟩) (tx:=tx) (ty:=t2) hx hy;rwa [decide_eq_true hh]at this
theorem stp_ge_f (hh:¬b≤a):Stp P ⟨tm,h⟩ (.binOp .geq tx x y t2) (.s (.bool false)) [] [] []:=by have:=stp_geq (P:=P) (st:=⟨tm,h⟩) (tx:=tx) (ty:=t2) hx hy;rwa [decide_eq_false hh]at this
theorem stp_eq_t (hh:a=b):Stp P ⟨tm,h⟩ (.binOp .eql tx x y t2) (.s (.bool true)) [] [] []:=by have:=stp_eql (P:=P) (st:=⟨tm,h⟩) (tx:=tx) (ty:=t2) hx hy;rwa [show(a==b)=true by simpa using hh]at this
theorem stp_eq_f (hh:a≠b):Stp P ⟨tm,h⟩ (.binOp .eql tx x y t2) (.s (.bool false)) [] [] []:=by have:=stp_eql (P:=P) (st:=⟨tm,h⟩) (tx:=tx) (ty:=t2) hx hy;rwa [show(a==b)=false by simpa using hh]at this
theorem stp_ne_t (hh:a≠b):Stp P ⟨tm,h⟩ (.binOp .neq tx x y t2) (.s (.bool true)) [] [] []:=by have:=stp_neq (P:=P) (st:=⟨tm,h⟩) (tx:=tx) (ty:=t2) hx hy;rwa [show(a != b)=true by simpa using hh]at this
theorem stp_ne_f (hh:a=b):Stp P ⟨tm,h⟩ (.binOp .neq tx x y t2) (.s (.bool false)) [] [] []:=by have:=stp_neq (P:=P) (st:=⟨tm,h⟩) (tx:=tx) (ty:=t2) hx hy;rwa [show(a != b)=false by simpa using hh]at this
end
end
end
end Av
end Go.Proofs.YtaikgchmpieooaaGreat
